/- What the printed functions come to: each in plain words (loops by induction). -/
import Derived.Test.YtoaalfpfklchfaaDoorZPermBackPx1
import Derived.Test.YtoaalfpfklchfaaDoorZPermBackPx2
import Derived.Test.YtoaalfpfklchfaaDoorZPermBackPx3
import Derived.Test.YtoaalfpfklchfaaDoorZPermBackPx4
import Derived.Test.YtoaalfpfklchfaaDoorZPermBackPx5
import Derived.Test.YtoaalfpfklchfaaDoorZPermBackPx6
import Derived.Test.YtoaalfpfklchfaaDoorZPermBackPx7
import Derived.Test.YtoaalfpfklchfaaDoorZPermBackPx8
import Derived.Test.YtoaalfpfklchfaaDoorZPermBackLists
import Derived.Test.YtoaalfpfklchfaaDoorZPermBackBacks
import Derived.Test.YtoaalfpfklchfaaDoorZPermBackRanks
import Derived.Test.YtoaalfpfklchfaaDoorZPermBackSigns
import Derived.Test.YtoaalfpfklchfaaDoorZPermBackTexts
import Derived.Test.YtoaalfpfklchfaaDoorZPermBackUnranks
namespace Go.Proofs.YtoaalfpfklchfaaDoor.QPermBack
open Go.RowKit Go.Proofs.YtoaalfpfklchfaaDoor.PPermBack Go.Proofs.YtoaalfpfklchfaaDoorW.PrintWords Go.Proofs.YtoaalfpfklchfaaDoorW.PrintLast Go.Proofs.YtoaalfpfklchfaaDoor.Plain
set_option linter.unusedVariables false
set_option linter.unusedSimpArgs false

/-! ### awake22 -/
theorem galoislaw22_awake.ev : Ev (fun k => galoislaw22_awake.f k) true := Ev.of galoislaw22_awake.mono (k := 40) (by decide +kernel)

/-! ### galoislaw22_few -/
theorem galoislaw22_few.l_ev (l : List (List Int)) (hn : l.length < 4611686018427387904) : ∀ (d i : Nat), l.length - i = d → i ≤ l.length →
    Ev (fun k => galoislaw22_few.l0 k l (i : Int)) ((l.drop i).all fun x => decide (x.length ≤ 40)) := by
  intro d
  induction d with
  | zero =>
    intro i hd hi
    rw [List.drop_eq_nil_of_le (by omega : l.length ≤ i)]
    refine Ev.step (f := fun _ => some true) (fun k => ?_) (Ev.now _)
    simp only [galoislaw22_few.l0]
    rw [if_neg (by omega)]
  | succ d ih =>
    intro i hd hi
    have ha : i < l.length := by omega
    have hg : rd_L1 l (i : Int) = l[i] := by
      show l.getD i [] = _
      rw [List.getD_eq_getElem?_getD, List.getElem?_eq_getElem ha]; rfl
    rw [List.drop_eq_getElem_cons ha, List.all_cons]
    by_cases e : l[i].length ≤ 40
    · refine Ev.step (f := fun k => galoislaw22_few.l0 k l ((i + 1 : Nat) : Int)) (fun k => ?_) ?_
      · simp only [galoislaw22_few.l0]
        rw [if_pos (by omega), if_pos (by omega), hg, if_neg (by omega), wrap_nat (by omega)]
      · rw [decide_eq_true e, Bool.true_and]
        exact ih (i + 1) (by omega) (by omega)
    · refine Ev.step (f := fun _ => some false) (fun k => ?_) ?_
      · simp only [galoislaw22_few.l0]
        rw [if_pos (by omega), if_pos (by omega), hg, if_pos (by omega)]
      · rw [decide_eq_false e, Bool.false_and]
        exact Ev.now _
theorem galoislaw22_few.ev (l : List (List Int)) (hn : l.length < 4611686018427387904) : Ev (fun k => galoislaw22_few.f k l) (l.all fun x => decide (x.length ≤ 40)) := by
  have := galoislaw22_few.l_ev l hn _ 0 rfl (by omega)
  rwa [List.drop_zero] at this

/-! ### galoisref22_Check -/
theorem galoisref22_Check.l1_ev (l : List Int) (i : Nat) (hi : i < l.length) (hl : l.length ≤ 20) (r : Int)
    (hr : l.getD i 0 ∉ l.take i → Ev (fun k => galoisref22_Check.l0 k l ((i + 1 : Nat) : Int)) r) : ∀ (d j : Nat), i - j = d → j ≤ i → l.getD i 0 ∉ l.take j →
    Ev (fun k => galoisref22_Check.l1 k l (i : Int) (j : Int)) (if l.getD i 0 ∈ l.take i then 24 else r) := by
  intro d
  induction d with
  | zero =>
    intro j hd hj hno
    have e : j = i := by omega
    subst e
    rw [if_neg hno]
    refine Ev.step (f := fun k => galoisref22_Check.l0 k l ((j + 1 : Nat) : Int)) (fun k => ?_) (hr hno)
    simp only [galoisref22_Check.l1]
    rw [if_neg (by omega), wrap_nat (by omega)]
  | succ d ih =>
    intro j hd hj hno
    have hjl : j < l.length := by omega
    by_cases e : l.getD j 0 = l.getD i 0
    · rw [if_pos (by
        rw [← e, List.getD_eq_getElem?_getD, List.getElem?_eq_getElem hjl]
        exact List.mem_take_iff_getElem.2 ⟨j, by omega, rfl⟩)]
      refine Ev.step (f := fun _ => some 24) (fun k => ?_) (Ev.now _)
      simp only [galoisref22_Check.l1]
      rw [if_pos (by omega), if_pos (by omega), if_pos (by omega), if_pos (by omega), if_pos (by omega), if_pos (by simpa only [rd_nat] using e)]
    · refine Ev.step (f := fun k => galoisref22_Check.l1 k l (i : Int) ((j + 1 : Nat) : Int)) (fun k => ?_) (ih (j + 1) (by omega) (by omega) ?_)
      · simp only [galoisref22_Check.l1]
        rw [if_pos (by omega), if_pos (by omega), if_pos (by omega), if_pos (by omega), if_pos (by omega), if_neg (by simpa only [rd_nat] using e), wrap_nat (by omega)]
      · rw [List.take_succ_eq_append_getElem hjl, List.mem_append, List.mem_singleton]
        rintro (h | h)
        · exact hno h
        · apply e
          rw [h, List.getD_eq_getElem?_getD, List.getElem?_eq_getElem hjl]; rfl
theorem galoisref22_Check.l_ev (l : List Int) (hl : l.length ≤ 20) : ∀ (d i : Nat), l.length - i = d → i ≤ l.length →
    Ev (fun k => galoisref22_Check.l0 k l (i : Int)) (chkFrom l d) := by
  intro d
  induction d with
  | zero =>
    intro i hd hi
    refine Ev.step (f := fun _ => some 0) (fun k => ?_) (Ev.now _)
    simp only [galoisref22_Check.l0]
    rw [if_neg (by omega)]
  | succ d ih =>
    intro i hd hi
    have hi' : l.length - (d + 1) = i := by omega
    simp only [chkFrom, hi']
    have hb : ∀ b : Bool, (b = true ↔ (l.getD i 0 < 0 ∨ (l.length : Int) ≤ l.getD i 0)) →
        Ev (fun k => galoisref22_Check.j1 k l (i : Int) b) (if l.getD i 0 < 0 ∨ (l.length : Int) ≤ l.getD i 0 then 3 else if l.getD i 0 ∈ l.take i then 24 else chkFrom l d) := by
      intro b hb
      by_cases h : b = true
      · rw [if_pos (hb.1 h)]
        refine Ev.step (f := fun _ => some 3) (fun k => ?_) (Ev.now _)
        simp only [galoisref22_Check.j1]
        rw [if_pos h]
      · rw [if_neg (fun hh => h (hb.2 hh))]
        refine Ev.step (f := fun k => galoisref22_Check.l1 k l (i : Int) ((0 : Nat) : Int)) (fun k => ?_) (galoisref22_Check.l1_ev l i (by omega) hl _ (fun _ => ih (i + 1) (by omega) (by omega)) _ 0 rfl (by omega) (by simp))
        simp only [galoisref22_Check.j1]
        rw [if_neg h]
        rfl
    by_cases h0 : rd l (i : Int) < 0
    · refine Ev.step (f := fun k => galoisref22_Check.j1 k l (i : Int) true) (fun k => ?_) (hb true ⟨fun _ => .inl h0, fun _ => rfl⟩)
      simp only [galoisref22_Check.l0]
      rw [if_pos (by omega), if_pos (by omega), if_pos h0]
    · refine Ev.step (f := fun k => galoisref22_Check.j1 k l (i : Int) (decide (rd l (i : Int) ≥ (l.length : Int)))) (fun k => ?_) (hb _ ?_)
      · simp only [galoisref22_Check.l0]
        rw [if_pos (by omega), if_pos (by omega), if_neg h0]
      · rw [decide_eq_true_iff]
        exact ⟨fun h => .inr h, fun h => h.elim (fun hh => absurd hh h0) id⟩
theorem galoisref22_Check.ev (l : List Int) : Ev (fun k => galoisref22_Check.f k l) (chk l) := by
  unfold galoisref22_Check.f chk
  by_cases h : 20 < l.length
  · rw [if_pos h]
    refine Ev.congr (f := fun _ => some 4) (fun k => ?_) (Ev.now _)
    rw [if_pos (by omega)]
  · rw [if_neg h]
    refine Ev.congr (f := fun k => galoisref22_Check.l0 k l 0) (fun k => ?_) (galoisref22_Check.l_ev l (by omega) _ 0 (by omega) (by omega))
    rw [if_neg (by omega)]

/-! ### api_Perm_int_81 -/
theorem api_Perm_int_81.l_ev (l : List Int) (x : Int) (hl : l.length < 4611686018427387904) : ∀ (d i : Nat), l.length - i = d → i ≤ l.length →
    Ev (fun k => api_Perm_int_81.l0 k l x (l.length : Int) (i : Int)) (if x ∈ l.drop i then ((i + (l.drop i).idxOf x : Nat) : Int) else -1) := by
  intro d
  induction d with
  | zero =>
    intro i hd hi
    have e : l.drop i = [] := List.drop_eq_nil_of_le (by omega)
    rw [e, if_neg (by simp)]
    refine Ev.step (f := fun _ => some (-1)) (fun k => ?_) (Ev.now _)
    simp only [api_Perm_int_81.l0]
    rw [if_neg (by omega)]
  | succ d ih =>
    intro i hd hi
    have hlt : i < l.length := by omega
    have e : l.drop i = l[i] :: l.drop (i + 1) := List.drop_eq_getElem_cons hlt
    by_cases hx : x = l[i]
    · rw [e, if_pos (by rw [hx]; exact List.mem_cons_self ..), ← hx, List.idxOf_cons_self]
      refine Ev.step (f := fun _ => some ((i : Nat) : Int)) (fun k => ?_) (Ev.now _)
      simp only [api_Perm_int_81.l0]
      rw [if_pos (by omega), if_pos (by omega), if_pos (by omega), if_pos (by rw [rd_get l i hlt]; exact hx)]
    · refine Ev.step (f := fun k => api_Perm_int_81.l0 k l x (l.length : Int) ((i + 1 : Nat) : Int)) (fun k => ?_) ?_
      · simp only [api_Perm_int_81.l0]
        rw [if_pos (by omega), if_pos (by omega), if_pos (by omega), if_neg (by rw [rd_get l i hlt]; exact hx), wrap_nat (by omega)]
      · have := ih (i + 1) (by omega) (by omega)
        rw [e]
        by_cases hm : x ∈ l.drop (i + 1)
        · rw [if_pos hm] at this
          have hne : (l[i] == x) = false := beq_eq_false_iff_ne.2 (fun h => hx h.symm)
          rw [if_pos (List.mem_cons_of_mem _ hm), List.idxOf_cons, hne, cond_false]
          rw [show i + ((l.drop (i + 1)).idxOf x + 1) = i + 1 + (l.drop (i + 1)).idxOf x by omega]
          exact this
        · rw [if_neg hm] at this
          rw [if_neg (by rw [List.mem_cons]; exact fun h => h.elim hx hm)]
          exact this
theorem api_Perm_int_81.ev (l : List Int) (x : Int) (hl : l.length < 4611686018427387904) : Ev (fun k => api_Perm_int_81.f k l x) (if x ∈ l then ((l.idxOf x : Nat) : Int) else -1) := by
  have := api_Perm_int_81.l_ev l x hl l.length 0 (by omega) (by omega)
  rw [List.drop_zero, Nat.zero_add] at this
  exact this

/-! ### api_Perm_int_72 -/
theorem api_Perm_int_72.ev (l : List Int) (x : Int) (hl : l.length < 4611686018427387904) : Ev (fun k => api_Perm_int_72.f k l x) (decide (x ∈ l)) := by
  unfold api_Perm_int_72.f
  refine Ev.bind (f := fun _ t => some (decide (t ≥ 0))) (api_Perm_int_81.ev l x hl) ?_
  by_cases h : x ∈ l
  · simp only [if_pos h]
    rw [show decide ((((l.idxOf x : Nat) : Int)) ≥ 0) = decide (x ∈ l) by simp [h]]
    exact Ev.now _
  · simp only [if_neg h]
    rw [show decide ((-1 : Int) ≥ 0) = decide (x ∈ l) by simp [h]]
    exact Ev.now _

/-! ### perm_Check -/
theorem perm_Check.l_ev (l : List Int) (hl : l.length ≤ 20) : ∀ (d i : Nat), l.length - i = d → i ≤ l.length →
    Ev (fun k => perm_Check.l0 k l l (l.length : Int) (i : Int)) (chkFrom l d) := by
  intro d
  induction d with
  | zero =>
    intro i hd hi
    refine Ev.step (f := fun _ => some 0) (fun k => ?_) (Ev.now _)
    simp only [perm_Check.l0]
    rw [if_neg (by omega)]
  | succ d ih =>
    intro i hd hi
    have hi' : l.length - (d + 1) = i := by omega
    simp only [chkFrom, hi']
    have hb : ∀ b : Bool, (b = true ↔ (l.getD i 0 < 0 ∨ (l.length : Int) ≤ l.getD i 0)) →
        Ev (fun k => perm_Check.j1 k l (i : Int) (rd l (i : Int)) l (l.length : Int) (i : Int) b) (if l.getD i 0 < 0 ∨ (l.length : Int) ≤ l.getD i 0 then 3 else if l.getD i 0 ∈ l.take i then 24 else chkFrom l d) := by
      intro b hb
      by_cases h : b = true
      · rw [if_pos (hb.1 h)]
        refine Ev.step (f := fun _ => some 3) (fun k => ?_) (Ev.now _)
        simp only [perm_Check.j1]
        rw [if_pos h]
      · rw [if_neg (fun hh => h (hb.2 hh))]
        refine Ev.step (f := fun k => (api_Perm_int_72.f k (l.take i) (rd l (i : Int))).bind fun t => if t = true then some 24 else perm_Check.l0 k l l (l.length : Int) ((i + 1 : Nat) : Int)) (fun k => ?_) ?_
        · simp only [perm_Check.j1]
          rw [if_neg h, if_pos (by omega), if_pos (by omega), wrap_nat (by omega)]
          rfl
        · refine Ev.bind (f := fun k t => if t = true then some 24 else perm_Check.l0 k l l (l.length : Int) ((i + 1 : Nat) : Int)) (api_Perm_int_72.ev _ _ (by rw [List.length_take]; omega)) ?_
          by_cases hm : l.getD i 0 ∈ l.take i
          · rw [if_pos hm]
            exact Ev.congr (f := fun _ => some 24) (fun k => if_pos (decide_eq_true hm)) (Ev.now _)
          · rw [if_neg hm]
            exact Ev.congr (f := fun k => perm_Check.l0 k l l (l.length : Int) ((i + 1 : Nat) : Int)) (fun k => if_neg (fun h => hm (of_decide_eq_true h))) (ih (i + 1) (by omega) (by omega))
    by_cases h0 : rd l (i : Int) < 0
    · refine Ev.step (f := fun k => perm_Check.j1 k l (i : Int) (rd l (i : Int)) l (l.length : Int) (i : Int) true) (fun k => ?_) (hb true ⟨fun _ => .inl h0, fun _ => rfl⟩)
      simp only [perm_Check.l0]
      rw [if_pos (by omega), if_pos (by omega), if_pos (by omega), if_pos h0]
    · refine Ev.step (f := fun k => perm_Check.j1 k l (i : Int) (rd l (i : Int)) l (l.length : Int) (i : Int) (decide (rd l (i : Int) ≥ (l.length : Int)))) (fun k => ?_) (hb _ ?_)
      · simp only [perm_Check.l0]
        rw [if_pos (by omega), if_pos (by omega), if_pos (by omega), if_neg h0]
      · rw [decide_eq_true_iff]
        exact ⟨fun h => .inr h, fun h => h.elim (fun hh => absurd hh h0) id⟩
theorem perm_Check.ev (l : List Int) : Ev (fun k => perm_Check.f k l) (chk l) := by
  unfold perm_Check.f chk
  by_cases h : 20 < l.length
  · rw [if_pos h]
    refine Ev.congr (f := fun _ => some 4) (fun k => ?_) (Ev.now _)
    rw [if_pos (by omega)]
  · rw [if_neg h]
    refine Ev.congr (f := fun k => perm_Check.l0 k l l (l.length : Int) 0) (fun k => ?_) (perm_Check.l_ev l (by omega) _ 0 (by omega) (by omega))
    rw [if_neg (by omega)]

/-! ### perm_check2 -/
def chk2 (a b : List Int) : Int := if chk a = 0 then (if chk b = 0 then (if a.length = b.length then 0 else 2) else chk b) else chk a
theorem perm_check2.ev (a b : List Int) : Ev (fun k => perm_check2.f k a b) (chk2 a b) := by
  unfold perm_check2.f chk2
  refine Ev.bind (perm_Check.ev a) ?_
  by_cases ha : chk a = 0
  · simp only [if_pos ha]
    refine Ev.bind (perm_Check.ev b) ?_
    by_cases hb : chk b = 0
    · simp only [if_pos hb]
      by_cases hl : a.length = b.length
      · rw [if_pos (by omega), if_pos hl]; exact Ev.now _
      · rw [if_neg (by omega), if_neg hl]; exact Ev.now _
    · simp only [if_neg hb]; exact Ev.now _
  · simp only [if_neg ha]; exact Ev.now _

/-! ### galoisref22_Two -/
theorem galoisref22_Two.ev (a b : List Int) : Ev (fun k => galoisref22_Two.f k a b) (chk2 a b) := by
  unfold galoisref22_Two.f chk2
  refine Ev.bind (galoisref22_Check.ev a) ?_
  by_cases ha : chk a = 0
  · simp only [if_pos ha]
    refine Ev.bind (galoisref22_Check.ev b) ?_
    by_cases hb : chk b = 0
    · simp only [if_pos hb]
      by_cases hl : a.length = b.length
      · rw [if_pos (by omega), if_pos hl]; exact Ev.now _
      · rw [if_neg (by omega), if_neg hl]; exact Ev.now _
    · simp only [if_neg hb]; exact Ev.now _
  · simp only [if_neg ha]; exact Ev.now _

/-! ### galoislaw22_right -/
theorem galoislaw22_right.ev (a b : List Int) : Ev (fun k => galoislaw22_right.f k a b) (decide (a.length ≤ 40 ∧ b.length ≤ 40 ∧ chk2 a b = 0)) := by
  unfold galoislaw22_right.f
  refine Ev.bind (galoislaw22_few.ev [a, b] (by simp)) ?_
  by_cases hf : a.length ≤ 40 ∧ b.length ≤ 40
  · simp only [List.all_cons, List.all_nil, decide_eq_true hf.1, decide_eq_true hf.2, Bool.and_true, if_true]
    refine Ev.bind (galoisref22_Two.ev a b) ?_
    rw [show (chk2 a b == 0) = decide (a.length ≤ 40 ∧ b.length ≤ 40 ∧ chk2 a b = 0) by
      rw [Bool.eq_iff_iff]; simp only [beq_iff_eq, decide_eq_true_eq]; exact ⟨fun h => ⟨hf.1, hf.2, h⟩, fun h => h.2.2⟩]
    exact Ev.now _
  · have h1 : ([a, b].all fun x => decide (x.length ≤ 40)) = false := by
      simp only [List.all_cons, List.all_nil, Bool.and_true, Bool.and_eq_false_iff, decide_eq_false_iff_not]
      omega
    simp only [h1, Bool.false_eq_true, if_false]
    rw [show decide (a.length ≤ 40 ∧ b.length ≤ 40 ∧ chk2 a b = 0) = false by
      rw [decide_eq_false_iff_not]; exact fun h => hf ⟨h.1, h.2.1⟩]
    exact Ev.now _
theorem chk2_zero {a b : List Int} (h : chk2 a b = 0) : chk a = 0 ∧ chk b = 0 ∧ a.length = b.length := by
  unfold chk2 at h
  split at h
  · split at h
    · split at h
      · exact ⟨‹_›, ‹_›, ‹_›⟩
      · exact absurd h (by omega)
    · exact absurd h ‹_›
  · exact absurd h ‹_›

/-! ### perm_cycles -/
theorem perm_cycles.l1_ev (g : Nat → Nat) (n : Nat) (h : Bij n g) (hn : n ≤ 20) (m : Nat) (hm : m < n) (R : List (List Int))
    (hl : isLeast g n m = true) (next : Ev (fun k => perm_cycles.l0 k (lf g n) (cycI g n (m + 1)) (seenL g n (m + 1) 0) (n : Int) ((m + 1 : Nat) : Int)) R) :
    ∀ (d t : Nat), per g n m - t = d → t ≤ per g n m →
    Ev (fun k => perm_cycles.l1 k (lf g n) (cycI g n m) (seenL g n m t) (ints ((List.range t).map fun k => it g k m)) ((it g t m : Nat) : Int) (n : Int) (m : Int)) R := by
  have hp := h.per_spec hm
  intro d
  induction d with
  | zero =>
    intro t hd ht
    have e : t = per g n m := by omega
    subst e
    have hseen : rdOf false (seenL g n m (per g n m)) ((it g (per g n m) m : Nat) : Int) = true := by
      rw [hp.1, seenL_rd _ _ _ _ _ hm, Bool.or_eq_true]
      exact .inr (List.any_eq_true.2 ⟨0, List.mem_range.2 (per_pos ..), by simp [it]⟩)
    have hlt : it g (per g n m) m < n := h.it_lt _ hm
    have hc := cyc_len g n m
    by_cases h2 : 2 ≤ per g n m
    · refine Ev.step (fun k => ?_) next
      simp only [perm_cycles.l1]
      rw [if_pos (by omega), if_pos (by rw [seenL_length]; omega), if_pos hseen, if_neg (by simp [ints]; omega), if_pos (by simp [cycI]; omega), wrap_nat (by omega), cycI_succ, if_pos (by simp [isHead, hl, h2]), seenL_next h m hm]
      rfl
    · refine Ev.step (fun k => ?_) next
      simp only [perm_cycles.l1]
      rw [if_pos (by omega), if_pos (by rw [seenL_length]; omega), if_pos hseen, if_pos (by simp [ints]; omega), wrap_nat (by omega), cycI_succ, if_neg (by simp [isHead, h2]), seenL_next h m hm, List.append_nil]
  | succ d ih =>
    intro t hd ht
    have hlt : it g t m < n := h.it_lt _ hm
    have hseen : rdOf false (seenL g n m t) ((it g t m : Nat) : Int) = false := by
      rw [seenL_rd _ _ _ _ _ hlt, Bool.or_eq_false_iff]
      constructor
      · rw [List.any_eq_false]
        intro j hj hin
        have hin := of_decide_eq_true hin
        have hj := List.mem_range.1 hj
        refine (h.least_iff m hm).1 hl ⟨j, hj, h.orb_trans (by omega) hin ?_⟩
        exact h.orb_symm hm ((h.mem_orb hm _).2 ⟨t, rfl⟩)
      · rw [List.any_eq_false]
        intro k hk e
        exact h.it_ne hm (List.mem_range.1 hk) (by omega : t < per g n m) (beq_iff_eq.1 e).symm
    have hpn := hp.2.1
    refine Ev.step (fun k => ?_) (ih (t + 1) (by omega) (by omega))
    simp only [perm_cycles.l1]
    rw [if_pos (by omega), if_pos (by rw [seenL_length]; omega), if_neg (by rw [hseen]; exact Bool.false_ne_true), if_pos (by simp [ints]; omega), if_pos (by rw [lf_length]; omega), Int.toNat_natCast, seenL_step g n m t hlt, rd_nat, lf_getD g n _ hlt]
    rw [show ints ((List.range t).map fun k => it g k m) ++ [((it g t m : Nat) : Int)] = ints ((List.range (t + 1)).map fun k => it g k m) by simp [ints, List.range_succ]]
    rfl
theorem perm_cycles.l_ev (g : Nat → Nat) (n : Nat) (h : Bij n g) (hn : n ≤ 20) : ∀ (d m : Nat), n - m = d → m ≤ n →
    Ev (fun k => perm_cycles.l0 k (lf g n) (cycI g n m) (seenL g n m 0) (n : Int) (m : Int)) (cycI g n n) := by
  intro d
  induction d with
  | zero =>
    intro m hd hm
    have e : m = n := by omega
    subst e
    refine Ev.step (f := fun _ => some (cycI g m m)) (fun k => ?_) (Ev.now _)
    simp only [perm_cycles.l0]
    rw [if_neg (by omega)]
  | succ d ih =>
    intro m hd hm
    have hlt : m < n := by omega
    have next := ih (m + 1) (by omega) (by omega)
    refine Ev.step (f := fun k => perm_cycles.l1 k (lf g n) (cycI g n m) (seenL g n m 0) (ints ((List.range 0).map fun k => it g k m)) ((it g 0 m : Nat) : Int) (n : Int) (m : Int)) (fun k => ?_) ?_
    · simp only [perm_cycles.l0]
      rw [if_pos (by omega)]
      rfl
    · by_cases hl : isLeast g n m = true
      · exact perm_cycles.l1_ev g n h hn m hlt _ hl next _ 0 rfl (Nat.zero_le _)
      · have : ∃ j, j < m ∧ m ∈ orb g n j := by
          apply Classical.byContradiction
          intro hc
          exact hl ((h.least_iff m hlt).2 hc)
        obtain ⟨j, hj, hin⟩ := this
        refine Ev.step (fun k => ?_) next
        simp only [perm_cycles.l1]
        rw [if_pos (by omega), if_pos (by rw [seenL_length]; show ((m : Nat) : Int) < _; omega), if_pos ?_, if_pos (by simp [ints]), wrap_nat (by omega), cycI_succ, if_neg (by simp [isHead, hl]), List.append_nil, seenL_skip h m hlt j hj hin]
        show rdOf false (seenL g n m 0) ((m : Nat) : Int) = true
        rw [seenL_rd _ _ _ _ _ hlt, Bool.or_eq_true]
        exact .inl (List.any_eq_true.2 ⟨j, List.mem_range.2 hj, decide_eq_true hin⟩)
theorem perm_cycles.ev (g : Nat → Nat) (n : Nat) (h : Bij n g) (hn : n ≤ 20) : Ev (fun k => perm_cycles.f k (lf g n)) (cycI g n n) := by
  refine Ev.congr (fun k => ?_) (perm_cycles.l_ev g n h hn _ 0 rfl (Nat.zero_le _))
  unfold perm_cycles.f
  rw [lf_length, if_pos (by omega), if_pos (by omega), Int.toNat_natCast, seenL_zero]
  rfl

/-! ### perm_Cycles -/
theorem perm_Cycles.ev (g : Nat → Nat) (n : Nat) (h : Bij n g) (hn : n ≤ 20) : Ev (fun k => perm_Cycles.f k (lf g n)) (cycI g n n, 0) := by
  unfold perm_Cycles.f
  refine Ev.bind (perm_Check.ev _) ?_
  simp only [if_pos (chk_lf h hn)]
  exact Ev.bind (perm_cycles.ev g n h hn) (Ev.now _)
theorem perm_Cycles.ev_bad (l : List Int) (h : chk l ≠ 0) : Ev (fun k => perm_Cycles.f k l) ([], chk l) := by
  unfold perm_Cycles.f
  refine Ev.bind (perm_Check.ev _) ?_
  simp only [if_neg h]
  exact Ev.now _

/-! ### perm_Rank -/
theorem perm_Rank.l1_ev (l : List Int) (i : Nat) (hi : i < l.length) (hl : l.length ≤ 20) (R : Int × Int) (base : Nat) (hb : base + 20 < 4611686018427387904)
    (next : Ev (fun k => perm_Rank.l0 k l ((base + below l[i] (l.drop (i + 1)) : Nat) : Int) l (l.length : Int) ((i + 1 : Nat) : Int)) R) : ∀ (d j : Nat), (l.drop (i + 1)).length - j = d → j ≤ (l.drop (i + 1)).length →
    Ev (fun k => perm_Rank.l1 k l ((base + below l[i] ((l.drop (i + 1)).take j) : Nat) : Int) l[i] l (l.length : Int) (i : Int) (l.drop (i + 1)) ((l.drop (i + 1)).length : Int) (j : Int)) R := by
  have hdl : (l.drop (i + 1)).length ≤ 20 := by rw [List.length_drop]; omega
  intro d
  induction d with
  | zero =>
    intro j hd hj
    rw [List.take_of_length_le (by omega)]
    refine Ev.step (fun k => ?_) next
    simp only [perm_Rank.l1]
    rw [if_neg (by omega), wrap_nat (by omega)]
  | succ d ih =>
    intro j hd hj
    have hlt : j < (l.drop (i + 1)).length := by omega
    have nx := ih (j + 1) (by omega) (by omega)
    rw [List.take_succ_eq_append_getElem hlt, below_append, below_cons] at nx
    have hbl := below_le l[i] ((l.drop (i + 1)).take j)
    rw [List.length_take] at hbl
    by_cases h : (l.drop (i + 1))[j] < l[i]
    · rw [if_pos h] at nx
      refine Ev.step (fun k => ?_) nx
      simp only [perm_Rank.l1]
      rw [if_pos (by omega), if_pos (by omega), if_pos (by omega), rd_get _ j hlt, if_pos h, wrap_nat (by omega), wrap_nat (by omega)]
      simp [below, Nat.add_assoc]
    · rw [if_neg h] at nx
      refine Ev.step (fun k => ?_) nx
      simp only [perm_Rank.l1]
      rw [if_pos (by omega), if_pos (by omega), if_pos (by omega), rd_get _ j hlt, if_neg h, wrap_nat (by omega)]
      simp [below]
theorem perm_Rank.l0_ev (l : List Int) (hl : l.length ≤ 20) : ∀ (d i : Nat) (r : Nat), l.length - i = d → i ≤ l.length → r * fact (l.length - i) + rk (l.drop i) = rk l →
    Ev (fun k => perm_Rank.l0 k l (r : Int) l (l.length : Int) (i : Int)) ((rk l : Nat), 0) := by
  have hr := rk_lt l
  have hf := fact_20 hl
  intro d
  induction d with
  | zero =>
    intro i r hd hi he
    rw [List.drop_eq_nil_of_le (by omega), show l.length - i = 0 by omega] at he
    have e : r = rk l := by simpa [rk, fact] using he
    subst e
    refine Ev.step (f := fun _ => some (((rk l : Nat) : Int), 0)) (fun k => ?_) (Ev.now _)
    simp only [perm_Rank.l0]
    rw [if_neg (by omega)]
  | succ d ih =>
    intro i r hd hi he
    have hlt : i < l.length := by omega
    rw [List.drop_eq_getElem_cons hlt] at he
    simp only [rk] at he
    have hdl : (l.drop (i + 1)).length = l.length - (i + 1) := List.length_drop ..
    have en : l.length - i = (l.length - (i + 1)) + 1 := by omega
    have he' : (r * (l.length - i) + below l[i] (l.drop (i + 1))) * fact (l.length - (i + 1)) + rk (l.drop (i + 1)) = rk l := by
      rw [← he, hdl]
      conv => rhs; rw [en]
      simp only [fact]
      rw [Nat.add_mul, ← en, Nat.mul_assoc, Nat.add_assoc]
    have hb : r * (l.length - i) ≤ rk l := by
      have h1 : r * (l.length - i) + below l[i] (l.drop (i + 1)) ≤ (r * (l.length - i) + below l[i] (l.drop (i + 1))) * fact (l.length - (i + 1)) := Nat.le_mul_of_pos_right _ (fact_pos _)
      omega
    have hrl : r ≤ r * (l.length - i) := Nat.le_mul_of_pos_right _ (by omega)
    have nx := ih (i + 1) _ (by omega) (by omega) he'
    have := perm_Rank.l1_ev l i hlt hl _ (r * (l.length - i)) (by omega) nx _ 0 rfl (Nat.zero_le _)
    refine Ev.step (fun k => ?_) this
    simp only [perm_Rank.l0]
    have e1 : wrap64 ((l.length : Int) - (i : Int)) = ((l.length - i : Nat) : Int) := by rw [w64_small (by omega) (by omega)]; omega
    rw [if_pos (by omega), if_pos (by omega), if_pos (by omega), wrap_nat (by omega), if_pos (by omega), if_pos (by omega), rd_get l i hlt, e1, ← Int.natCast_mul, w64_small (by omega) (by omega), Int.toNat_natCast]
    simp [below]
theorem perm_Rank.ev (l : List Int) (h : chk l = 0) : Ev (fun k => perm_Rank.f k l) (((rk l : Nat) : Int), 0) := by
  unfold perm_Rank.f
  refine Ev.bind (perm_Check.ev _) ?_
  simp only [if_pos h]
  exact perm_Rank.l0_ev l (of_chk h).1 _ 0 0 rfl (Nat.zero_le _) (by simp)
theorem perm_Rank.ev_bad (l : List Int) (h : chk l ≠ 0) : Ev (fun k => perm_Rank.f k l) (0, chk l) := by
  unfold perm_Rank.f
  refine Ev.bind (perm_Check.ev _) ?_
  simp only [if_neg h]
  exact Ev.now _

/-! ### rdL -/
theorem rdL_get (C : List (List Int)) (i : Nat) (h : i < C.length) : rd_L1 C (i : Int) = C[i] := by
  show C.getD i [] = _
  rw [List.getD_eq_getElem?_getD, List.getElem?_eq_getElem h]; rfl
theorem tmod_next (j n : Nat) (hj : j < 4611686018427387904) : Int.tmod (wrap64 ((j : Int) + 1)) (n : Int) = (((j + 1) % n : Nat) : Int) := by
  rw [wrap_nat hj, Int.ofNat_tmod]

/-! ### strconv_small -/
theorem strconv_Itoa_70.ev (n : Nat) (hn : n < 20) : Ev (fun q => strconv_Itoa_70.f q (n : Int)) (numB n) := by
  have h : strconv_small.f (n : Int) = some (numB n) := by
    unfold strconv_small.f numB
    rw [if_pos (by omega), Int.toNat_natCast]
    by_cases h10 : n < 10
    · rw [if_pos (by omega), if_pos h10]
    · rw [if_neg (by omega), if_pos (by omega), if_neg h10]
  unfold strconv_Itoa_70.f strconv_Itoa_80.f
  refine Ev.bind (f := fun _ t => some t) (Ev.bind (f := fun _ t => some t) ?_ (Ev.now _)) (Ev.now _)
  unfold strconv_FormatInt.f
  simp only [if_true, if_pos (by omega : (0 : Int) ≤ (n : Int)), decide_eq_true (by omega : (n : Int) < 100)]
  refine Ev.step (f := fun _ => some (numB n)) (fun q => ?_) (Ev.now _)
  simp only [strconv_FormatInt.j0, if_true, h, Option.bind_some]

/-! ### perm_Format -/
theorem perm_Format.l1_ev (C : List (List Int)) (i : Nat) (hi : i < 1000) (c : List Int) (hc : c.length ≤ 20) (hv : ∀ x ∈ c, 0 ≤ x ∧ x < 20) (x : ByteArray) (hx : x.size ≤ 100000) (R : ByteArray × Int)
    (next : Ev (fun q => perm_Format.l0 q (fmt1 c x c.length ++ ⟨#[41]⟩) C (C.length : Int) ((i + 1 : Nat) : Int)) R) : ∀ (d j : Nat), c.length - j = d → j ≤ c.length →
    Ev (fun q => perm_Format.l1 q (fmt1 c x j) C (C.length : Int) (i : Int) c (c.length : Int) (j : Int)) R := by
  intro d
  induction d with
  | zero =>
    intro j hd hj
    have e : j = c.length := by omega
    subst e
    have hs := fmt1_size c x c.length
    refine Ev.step (fun q => ?_) next
    simp only [perm_Format.l1]
    rw [if_neg (by omega), if_pos (by omega), wrap_nat (by omega)]
  | succ d ih =>
    intro j hd hj
    have hlt : j < c.length := by omega
    have hm := hv c[j] (List.getElem_mem hlt)
    obtain ⟨v, hv'⟩ : ∃ v : Nat, c[j] = (v : Int) := ⟨c[j].toNat, by omega⟩
    have hs := fmt1_size c x j
    have hb := @numB_size v
    have hn : fmt1 c x (j + 1) = (if j = 0 then x ++ ⟨#[40]⟩ else fmt1 c x j ++ ⟨#[32]⟩) ++ numB v := by
      show (if j = 0 then x ++ ⟨#[40]⟩ else fmt1 c x j ++ ⟨#[32]⟩) ++ numB (c.getD j 0).toNat = _
      rw [List.getD_eq_getElem?_getD, List.getElem?_eq_getElem hlt, Option.getD_some, hv', Int.toNat_natCast]
    have nx := ih (j + 1) (by omega) (by omega)
    rw [hn] at nx
    by_cases h0 : j = 0
    · subst h0
      rw [if_pos rfl] at nx
      refine Ev.step (f := fun q => (strconv_Itoa_70.f q (v : Int)).bind fun t => if (x ++ (⟨#[40]⟩ : ByteArray)).size + t.size ≤ 9223372036854775807 then perm_Format.l1 q ((x ++ (⟨#[40]⟩ : ByteArray)) ++ t) C (C.length : Int) (i : Int) c (c.length : Int) ((0 + 1 : Nat) : Int) else none) (fun q => ?_) (Ev.bind (strconv_Itoa_70.ev v (by omega)) ?_)
      · simp only [perm_Format.l1]
        rw [if_pos (by omega), if_pos (by omega), if_pos (by omega), if_pos (by omega), if_pos (by omega), rd_get c 0 hlt, hv', wrap_nat (by omega)]
        rfl
      · have : (x ++ (⟨#[40]⟩ : ByteArray)).size + (numB v).size ≤ 9223372036854775807 := by
          rw [ByteArray.size_append, show (⟨#[40]⟩ : ByteArray).size = 1 from rfl]; omega
        simp only [if_pos this]
        exact nx
    · rw [if_neg h0] at nx
      refine Ev.step (f := fun q => (strconv_Itoa_70.f q (v : Int)).bind fun t => if (fmt1 c x j ++ (⟨#[32]⟩ : ByteArray)).size + t.size ≤ 9223372036854775807 then perm_Format.l1 q ((fmt1 c x j ++ (⟨#[32]⟩ : ByteArray)) ++ t) C (C.length : Int) (i : Int) c (c.length : Int) ((j + 1 : Nat) : Int) else none) (fun q => ?_) (Ev.bind (strconv_Itoa_70.ev v (by omega)) ?_)
      · simp only [perm_Format.l1]
        rw [if_pos (by omega), if_pos (by omega), if_pos (by omega), if_neg (by omega), if_pos (by omega), rd_get c j hlt, hv', wrap_nat (by omega)]
      · have : (fmt1 c x j ++ (⟨#[32]⟩ : ByteArray)).size + (numB v).size ≤ 9223372036854775807 := by
          rw [ByteArray.size_append, show (⟨#[32]⟩ : ByteArray).size = 1 from rfl]; omega
        simp only [if_pos this]
        exact nx
theorem perm_Format.l0_ev (C : List (List Int)) (hC : C.length ≤ 20) (hc : ∀ c ∈ C, c.length ≤ 20) (hv : ∀ c ∈ C, ∀ x ∈ c, 0 ≤ x ∧ x < 20) : ∀ (d i : Nat), C.length - i = d → i ≤ C.length →
    Ev (fun q => perm_Format.l0 q (fmtC (C.take i)) C (C.length : Int) (i : Int)) (fmtS C, 0) := by
  intro d
  induction d with
  | zero =>
    intro i hd hi
    rw [List.take_of_length_le (by omega)]
    refine Ev.step (f := fun _ => some (fmtS C, 0)) (fun q => ?_) (Ev.now _)
    simp only [perm_Format.l0]
    rw [if_neg (by omega)]
    unfold fmtS
    by_cases h : C = []
    · subst h
      rw [if_pos rfl, if_pos ((toList_nil _).2 rfl)]
    · have := fmtC_pos h
      rw [if_neg h, if_neg (by rw [toList_nil]; omega)]
  | succ d ih =>
    intro i hd hi
    have hlt : i < C.length := by omega
    have hm := List.getElem_mem hlt
    have hs := fmtC_size hc i hi
    have nx := ih (i + 1) (by omega) (by omega)
    rw [fmtC_take hlt] at nx
    refine Ev.step (f := fun q => perm_Format.l1 q (fmt1 C[i] (fmtC (C.take i)) 0) C (C.length : Int) (i : Int) C[i] (C[i].length : Int) ((0 : Nat) : Int)) (fun q => ?_) (perm_Format.l1_ev C i (by omega) C[i] (hc _ hm) (hv _ hm) (fmtC (C.take i)) (by omega) _ nx _ 0 rfl (Nat.zero_le _))
    simp only [perm_Format.l0]
    rw [if_pos (by omega), if_pos (by omega), if_pos (by omega), rdL_get C i hlt]
    rfl
theorem perm_Format.ev (g : Nat → Nat) (n : Nat) (h : Bij n g) (hn : n ≤ 20) : Ev (fun q => perm_Format.f q (lf g n)) (fmtS (cycI g n n), 0) := by
  unfold perm_Format.f
  refine Ev.bind (perm_Check.ev (lf g n)) ?_
  simp only [chk_lf h hn, if_true]
  refine Ev.bind (perm_cycles.ev g n h hn) ?_
  have := perm_Format.l0_ev (cycI g n n) (by have := cyc_len g n n; unfold cycI; rw [List.length_map]; omega) (cycI_short h hn) (cycI_vals h hn) _ 0 rfl (Nat.zero_le _)
  exact this
theorem perm_Format.ev_bad (l : List Int) (h : chk l ≠ 0) : Ev (fun q => perm_Format.f q l) (⟨#[]⟩, chk l) := by
  unfold perm_Format.f
  refine Ev.bind (perm_Check.ev l) ?_
  simp only [if_neg h]
  exact Ev.now _

/-! ### perm_identity -/
theorem perm_identity.l_ev (n : Nat) (hl : n ≤ 35184372088832) : ∀ (d i : Nat), n - i = d → i ≤ n →
    Ev (fun k => perm_identity.l0 k ((lf (fun i => i) n).take i ++ (List.replicate n 0).drop i) (n : Int) (i : Int)) (lf (fun i => i) n) := by
  have hm : (lf (fun i => i) n).length = n := lf_length _ _
  intro d
  induction d with
  | zero =>
    intro i hd hi
    have e : i = (lf (fun i => i) n).length := by omega
    refine Ev.step (f := fun _ => some (lf (fun i => i) n)) (fun k => ?_) (Ev.now _)
    simp only [perm_identity.l0]
    rw [if_neg (by omega), e, fill_end _ _ (by simp [hm])]
  | succ d ih =>
    intro i hd hi
    refine Ev.step (f := fun k => perm_identity.l0 k ((lf (fun i => i) n).take (i + 1) ++ (List.replicate n 0).drop (i + 1)) (n : Int) ((i + 1 : Nat) : Int)) (fun k => ?_) (ih (i + 1) (by omega) (by omega))
    simp only [perm_identity.l0]
    rw [if_pos (by omega), if_pos (by omega), if_pos (by rw [List.length_append, List.length_take, List.length_drop, List.length_replicate]; omega), wrap_nat (by omega)]
    rw [Int.toNat_natCast, set_fill (lf (fun i => i) n) (List.replicate n 0) i (i : Int) (by omega) (by simp [hm]) (lf_get? _ _ _ (by omega))]
theorem perm_identity.ev (n : Nat) (hl : n ≤ 35184372088832) : Ev (fun k => perm_identity.f k (n : Int)) (lf (fun i => i) n) := by
  refine Ev.congr (f := fun k => perm_identity.l0 k ((lf (fun i => i) n).take 0 ++ (List.replicate n 0).drop 0) (n : Int) ((0 : Nat) : Int)) (fun k => ?_) (perm_identity.l_ev n hl _ 0 rfl (Nat.zero_le _))
  unfold perm_identity.f
  rw [if_pos (by omega), if_pos (by omega)]
  simp

/-! ### perm_FromCycles -/
theorem perm_FromCycles.l3_ev (C : List (List Int)) (i : Nat) (c : List Int) (hc : c.length ≤ 4000) (n : Nat) (hv : ∀ x ∈ c, 0 ≤ x ∧ x < (n : Int)) (p : List Int) (hp : p.length = n) (hi : i < 4611686018427387904) (R : List Int × Int)
    (next : Ev (fun k => perm_FromCycles.l2 k (fill1 c p c.length) C (C.length : Int) ((i + 1 : Nat) : Int)) R) : ∀ (d j : Nat), c.length - j = d → j ≤ c.length →
    Ev (fun k => perm_FromCycles.l3 k (fill1 c p j) c C (C.length : Int) (i : Int) c (c.length : Int) (j : Int)) R := by
  intro d
  induction d with
  | zero =>
    intro j hd hj
    have e : j = c.length := by omega
    subst e
    refine Ev.step (fun k => ?_) next
    simp only [perm_FromCycles.l3]
    rw [if_neg (by omega), wrap_nat hi]
  | succ d ih =>
    intro j hd hj
    have hlt : j < c.length := by omega
    have hx := hv c[j] (List.getElem_mem hlt)
    have hm := Nat.mod_lt (j + 1) (by omega : 0 < c.length)
    refine Ev.step (fun k => ?_) (ih (j + 1) (by omega) (by omega))
    simp only [perm_FromCycles.l3]
    rw [if_pos (by omega), if_pos (by omega), if_pos (by omega), if_neg (by omega), tmod_next j c.length (by omega), if_pos (by omega), if_pos (by omega), rd_get c j hlt, if_pos hx.1, if_pos (by rw [fill1_length]; omega), wrap_nat (by omega), fill1_succ]
    unfold stepC
    rw [List.getD_eq_getElem?_getD, List.getElem?_eq_getElem hlt]
    rfl
theorem perm_FromCycles.l2_ev (C : List (List Int)) (hC : C.length ≤ 4000) (hc : ∀ c ∈ C, c.length ≤ 4000) (n : Nat) (hv : ∀ c ∈ C, ∀ x ∈ c, 0 ≤ x ∧ x < (n : Int)) : ∀ (d i : Nat) (p : List Int), p.length = n → C.length - i = d → i ≤ C.length →
    Ev (fun k => perm_FromCycles.l2 k p C (C.length : Int) (i : Int)) (fillC p (C.drop i), 0) := by
  intro d
  induction d with
  | zero =>
    intro i p hp hd hi
    rw [List.drop_eq_nil_of_le (by omega : C.length ≤ i)]
    refine Ev.step (f := fun _ => some (p, 0)) (fun k => ?_) (Ev.now _)
    simp only [perm_FromCycles.l2]
    rw [if_neg (by omega)]
  | succ d ih =>
    intro i p hp hd hi
    have hlt : i < C.length := by omega
    have hm := List.getElem_mem hlt
    refine Ev.step (f := fun k => perm_FromCycles.l3 k (fill1 C[i] p 0) C[i] C (C.length : Int) (i : Int) C[i] (C[i].length : Int) ((0 : Nat) : Int)) (fun k => ?_) ?_
    · simp only [perm_FromCycles.l2]
      rw [if_pos (by omega), if_pos (by omega), if_pos (by omega), rdL_get C i hlt]
      rfl
    · refine perm_FromCycles.l3_ev C i C[i] (hc _ hm) n (hv _ hm) p hp (by omega) _ ?_ _ 0 rfl (Nat.zero_le _)
      rw [List.drop_eq_getElem_cons hlt]
      exact ih (i + 1) (fill1 C[i] p C[i].length) (by rw [fill1_length]; exact hp) (by omega) (by omega)
theorem perm_FromCycles.l1_ev (C : List (List Int)) (n : Nat) (hn : n ≤ 20) (F : List Int × Int) (i : Nat) (hi : i < C.length) (hC : C.length ≤ 4000) (hc : C[i].length ≤ 4000) (rest : List Int)
    (next : ∀ seen : List Bool, seen.length = n → (∀ x ∈ C[i], 0 ≤ x ∧ x < (n : Int)) → Ev (fun k => perm_FromCycles.l0 k (n : Int) C seen C (C.length : Int) ((i + 1 : Nat) : Int)) (scanR n F seen rest)) : ∀ (d j : Nat) (seen : List Bool), seen.length = n → (∀ x ∈ C[i].take j, 0 ≤ x ∧ x < (n : Int)) → C[i].length - j = d → j ≤ C[i].length →
    Ev (fun k => perm_FromCycles.l1 k (n : Int) C seen C (C.length : Int) (i : Int) C[i] (C[i].length : Int) (j : Int)) (scanR n F seen (C[i].drop j ++ rest)) := by
  intro d
  induction d with
  | zero =>
    intro j seen hs hv hd hj
    rw [List.drop_eq_nil_of_le (by omega), List.nil_append]
    refine Ev.step (fun k => ?_) (next seen hs (by rw [List.take_of_length_le (by omega)] at hv; exact hv))
    simp only [perm_FromCycles.l1]
    rw [if_neg (by omega), wrap_nat (by omega)]
  | succ d ih =>
    intro j seen hs hv hd hj
    have hlt : j < C[i].length := by omega
    rw [List.drop_eq_getElem_cons hlt, List.cons_append]
    simp only [scanR]
    have hb : ∀ b : Bool, (b = true ↔ (C[i][j] < 0 ∨ (n : Int) ≤ C[i][j])) → Ev (fun k => perm_FromCycles.j2 k (n : Int) C seen C[i][j] C (C.length : Int) (i : Int) C[i] (C[i].length : Int) (j : Int) b)
        (if C[i][j] < 0 ∨ (n : Int) ≤ C[i][j] then ([], 3) else if rdOf false seen C[i][j] = true then ([], 24) else scanR n F (seen.set C[i][j].toNat true) (C[i].drop (j + 1) ++ rest)) := by
      intro b hb
      by_cases h : b = true
      · rw [if_pos (hb.1 h)]
        refine Ev.step (f := fun _ => some ([], 3)) (fun k => ?_) (Ev.now _)
        simp only [perm_FromCycles.j2]
        rw [if_pos h]
      · have hr : ¬ (C[i][j] < 0 ∨ (n : Int) ≤ C[i][j]) := fun hh => h (hb.2 hh)
        rw [if_neg hr]
        by_cases hseen : rdOf false seen C[i][j] = true
        · rw [if_pos hseen]
          refine Ev.step (f := fun _ => some ([], 24)) (fun k => ?_) (Ev.now _)
          simp only [perm_FromCycles.j2]
          rw [if_neg h, if_pos (by omega), if_pos (by omega), if_pos hseen]
        · rw [if_neg hseen]
          refine Ev.step (fun k => ?_) (ih (j + 1) (seen.set C[i][j].toNat true) (by simp [hs]) ?_ (by omega) (by omega))
          · simp only [perm_FromCycles.j2]
            rw [if_neg h, if_pos (by omega), if_pos (by omega), if_neg hseen, wrap_nat (by omega)]
          · intro x hx
            rw [List.take_succ_eq_append_getElem hlt, List.mem_append, List.mem_singleton] at hx
            rcases hx with hx | rfl
            · exact hv x hx
            · omega
    by_cases h0 : C[i][j] < 0
    · refine Ev.step (fun k => ?_) (hb true ⟨fun _ => .inl h0, fun _ => rfl⟩)
      simp only [perm_FromCycles.l1]
      rw [if_pos (by omega), if_pos (by omega), if_pos (by omega), rd_get _ j hlt, if_pos h0]
    · refine Ev.step (fun k => ?_) (hb (decide (C[i][j] ≥ (n : Int))) ?_)
      · simp only [perm_FromCycles.l1]
        rw [if_pos (by omega), if_pos (by omega), if_pos (by omega), rd_get _ j hlt, if_neg h0]
      · rw [decide_eq_true_iff]
        exact ⟨fun h => .inr h, fun h => h.elim (fun hh => absurd hh h0) id⟩
theorem perm_FromCycles.l0_ev (C : List (List Int)) (n : Nat) (hn : n ≤ 20) (hC : C.length ≤ 4000) (hc : ∀ c ∈ C, c.length ≤ 4000) : ∀ (d i : Nat) (seen : List Bool), seen.length = n → (∀ c ∈ C.take i, ∀ x ∈ c, 0 ≤ x ∧ x < (n : Int)) → C.length - i = d → i ≤ C.length →
    Ev (fun k => perm_FromCycles.l0 k (n : Int) C seen C (C.length : Int) (i : Int)) (scanR n (fillC (lf (fun i => i) n) C, 0) seen (C.drop i).flatten) := by
  intro d
  induction d with
  | zero =>
    intro i seen hs hv hd hi
    rw [List.drop_eq_nil_of_le (by omega : C.length ≤ i)]
    rw [List.take_of_length_le (by omega)] at hv
    refine Ev.step (f := fun k => (perm_identity.f k (n : Int)).bind fun t => perm_FromCycles.l2 k t C (C.length : Int) ((0 : Nat) : Int)) (fun k => ?_) (Ev.bind (perm_identity.ev n (by omega)) ?_)
    · simp only [perm_FromCycles.l0]
      rw [if_neg (by omega)]
      rfl
    · have := perm_FromCycles.l2_ev C hC hc n hv _ 0 (lf (fun i => i) n) (lf_length _ _) rfl (Nat.zero_le _)
      rwa [List.drop_zero] at this
  | succ d ih =>
    intro i seen hs hv hd hi
    have hlt : i < C.length := by omega
    rw [List.drop_eq_getElem_cons hlt, List.flatten_cons]
    refine Ev.step (f := fun k => perm_FromCycles.l1 k (n : Int) C seen C (C.length : Int) (i : Int) C[i] (C[i].length : Int) ((0 : Nat) : Int)) (fun k => ?_) ?_
    · simp only [perm_FromCycles.l0]
      rw [if_pos (by omega), if_pos (by omega), if_pos (by omega), rdL_get C i hlt]
      rfl
    · have := perm_FromCycles.l1_ev C n hn (fillC (lf (fun i => i) n) C, 0) i hlt hC (hc _ (List.getElem_mem hlt)) (C.drop (i + 1)).flatten (fun seen' hs' hv' => ih (i + 1) seen' hs' (by
        intro c hcm
        rw [List.take_succ_eq_append_getElem hlt, List.mem_append, List.mem_singleton] at hcm
        rcases hcm with hcm | rfl
        · exact hv c hcm
        · exact hv') (by omega) (by omega)) _ 0 seen hs (by simp) rfl (Nat.zero_le _)
      rwa [List.drop_zero] at this
theorem perm_FromCycles.ev (n : Int) (C : List (List Int)) (hC : C.length ≤ 4000) (hc : ∀ c ∈ C, c.length ≤ 4000) : Ev (fun k => perm_FromCycles.f k n C) (fromC n C) := by
  have e : perm_checkDegree.f n = some (degE n) := by
    unfold perm_checkDegree.f degE
    split
    · rfl
    · split <;> rfl
  unfold perm_FromCycles.f fromC
  simp only [e, Option.bind_some]
  by_cases h : degE n = 0
  · obtain ⟨m, rfl, hm⟩ := degE_zero h
    simp only [if_pos h]
    refine Ev.congr (fun k => ?_) (perm_FromCycles.l0_ev C m hm hC hc _ 0 (List.replicate m false) (by simp) (by simp) rfl (Nat.zero_le _))
    rw [if_pos (by omega), if_pos (by omega)]
    rfl
  · simp only [if_neg h]
    exact Ev.now _

/-! ### perm_Unrank -/
section
attribute [local irreducible] fact
theorem perm_Unrank.l1_ev (i : Nat) : ∀ (hi : i ≤ 20) (rest p : List Int) (k : Nat), rest.length = i → k < fact i → p.length + i ≤ 40 →
    Ev (fun q => perm_Unrank.l1 q (k : Int) ((fact i : Nat) : Int) rest p (i : Int)) (p ++ unr i rest k, 0) := by
  induction i with
  | zero =>
    intro hi rest p k hm hk hp
    refine Ev.step (f := fun _ => some (p ++ unr 0 rest k, 0)) (fun q => ?_) (Ev.now _)
    simp only [perm_Unrank.l1, unr, List.append_nil]
    rw [if_neg (by omega)]
  | succ i IH =>
    intro hi rest p k hm hk hp
    have hf := fact_20 (show i ≤ 20 by omega)
    have hf1 := fact_20 hi
    have hp0 := fact_pos i
    have hd := div_fact hk
    have hmod := Nat.mod_lt k hp0
    have U : unr (i + 1) rest k = rest.getD (k / fact i) 0 :: unr i (rest.take (k / fact i) ++ rest.drop (k / fact i + 1)) (k % fact i) := rfl
    have e1 : wrap64 (Int.tdiv ((fact (i + 1) : Nat) : Int) ((i + 1 : Nat) : Int)) = ((fact i : Nat) : Int) := by
      rw [← Int.ofNat_tdiv, fact_succ, Nat.mul_div_cancel_left _ (Nat.succ_pos i), w64_small (by omega) (by omega)]
    have e2 : Int.tdiv (k : Int) ((fact i : Nat) : Int) = ((k / fact i : Nat) : Int) := (Int.ofNat_tdiv _ _).symm
    have e4 : Int.tmod (k : Int) ((fact i : Nat) : Int) = ((k % fact i : Nat) : Int) := (Int.ofNat_tmod _ _).symm
    generalize k / fact i = d at *
    generalize k % fact i = r at *
    have hd20 : d < 20 := Nat.lt_of_lt_of_le hd hi
    have e3 : wrap64 ((d : Int) + 1) = ((d + 1 : Nat) : Int) := wrap_nat (Nat.lt_trans hd20 (by decide))
    have e2' : wrap64 (d : Int) = (d : Int) := by clear e1 e2 e3 e4 U; exact w64_small (by omega) (by omega)
    have e5 : wrap64 (((i + 1 : Nat) : Int) - 1) = (i : Int) := by
      clear e1 e2 e2' e3 e4 U hk hf hf1 hp0 hmod IH
      rw [w64_small (by omega) (by omega)]; omega
    have hdl : d < rest.length := by rw [hm]; exact hd
    have hcut : (rest.take d ++ rest.drop (d + 1)).length = i := cut_length hm hdl
    have hpl : (p ++ [rest.getD d 0]).length + i ≤ 40 := by
      rw [List.length_append, List.length_singleton]
      clear e1 e2 e2' e3 e4 e5 U hk hf hf1 hp0 hmod IH
      omega
    have hi' : i ≤ 20 := Nat.le_of_succ_le hi
    have ih := IH hi' (rest.take d ++ rest.drop (d + 1)) (p ++ [rest.getD d 0]) r hcut hmod hpl
    have R : p ++ unr (i + 1) rest k = p ++ [rest.getD d 0] ++ unr i (rest.take d ++ rest.drop (d + 1)) r := by
      rw [U, List.append_assoc, List.singleton_append]
    rw [R]
    refine Ev.step (fun q => ?_) ih
    simp only [perm_Unrank.l1, e1, e2, e2', e3, e4, e5, Int.toNat_natCast, rd_nat]
    clear e1 e2 e2' e3 e4 e5 U R IH ih hf1 hk hmod
    rw [if_pos (by omega), if_neg (by omega), if_neg (by omega), if_pos (by omega), if_pos (by omega), if_pos (by omega), if_pos (by omega), if_pos (by omega)]
theorem perm_Unrank.l0_ev (n : Nat) (hn : n ≤ 20) (k : Int) (R : List Int × Int) (next : Ev (fun q => if k < 0 then perm_Unrank.j1 q (n : Int) k ((fact n : Nat) : Int) true else perm_Unrank.j1 q (n : Int) k ((fact n : Nat) : Int) (decide (k ≥ ((fact n : Nat) : Int)))) R) : ∀ (d i : Nat), n - i = d → i ≤ n →
    Ev (fun q => perm_Unrank.l0 q (n : Int) k ((fact i : Nat) : Int) (n : Int) (i : Int)) R := by
  intro d
  induction d with
  | zero =>
    intro i hd hi
    have e : i = n := by omega
    subst e
    refine Ev.step (fun q => ?_) next
    simp only [perm_Unrank.l0]
    rw [if_neg (by omega)]
  | succ d ih =>
    intro i hd hi
    refine Ev.step (fun q => ?_) (ih (i + 1) (by omega) (by omega))
    simp only [perm_Unrank.l0]
    have h1 := fact_20 (show i + 1 ≤ 20 by omega)
    have e : ((fact i : Nat) : Int) * ((i + 1 : Nat) : Int) = ((fact (i + 1) : Nat) : Int) := by
      rw [← Int.natCast_mul, Nat.mul_comm, ← fact_succ]
    rw [if_pos (by omega), wrap_nat (by omega), e, w64_small (by omega) (by omega)]
theorem perm_Unrank.ev (n : Nat) (hn : n ≤ 20) (k : Nat) (hk : k < fact n) : Ev (fun q => perm_Unrank.f q (n : Int) (k : Int)) (unr n (lf (fun i => i) n) k, 0) := by
  unfold perm_Unrank.f
  have hdeg : perm_checkDegree.f (n : Int) = some 0 := by
    unfold perm_checkDegree.f
    rw [if_neg (by omega), if_neg (by omega)]
  simp only [hdeg, Option.bind_some, if_true]
  rw [show (1 : Int) = ((fact 0 : Nat) : Int) by rw [fact_zero]; rfl]
  refine perm_Unrank.l0_ev n hn (k : Int) _ ?_ _ 0 rfl (Nat.zero_le _)
  have h1 : decide ((k : Int) ≥ ((fact n : Nat) : Int)) = false := decide_eq_false (by omega)
  simp only [if_neg (by omega : ¬ (k : Int) < 0), h1]
  refine Ev.step (f := fun q => (perm_identity.f q (n : Int)).bind fun t => perm_Unrank.l1 q (k : Int) ((fact n : Nat) : Int) t [] (n : Int)) (fun q => ?_) ?_
  · simp only [perm_Unrank.j1, Bool.false_eq_true, if_false, if_pos (show (0 : Int) ≤ (n : Int) by omega), Int.toNat_natCast, if_pos (show n ≤ 35184372088832 by omega)]
  · refine Ev.bind (perm_identity.ev n (by omega)) ?_
    exact perm_Unrank.l1_ev n hn _ [] k (lf_length _ _) hk (by simp; omega)
theorem perm_Unrank.ev_range (n : Nat) (hn : n ≤ 20) (k : Int) (hk : k < 0 ∨ ((fact n : Nat) : Int) ≤ k) : Ev (fun q => perm_Unrank.f q (n : Int) k) ([], 3) := by
  unfold perm_Unrank.f
  have hdeg : perm_checkDegree.f (n : Int) = some 0 := by
    unfold perm_checkDegree.f
    rw [if_neg (by omega), if_neg (by omega)]
  simp only [hdeg, Option.bind_some, if_true]
  rw [show (1 : Int) = ((fact 0 : Nat) : Int) by rw [fact_zero]; rfl]
  refine perm_Unrank.l0_ev n hn k _ ?_ _ 0 rfl (Nat.zero_le _)
  have fin : Ev (fun q => perm_Unrank.j1 q (n : Int) k ((fact n : Nat) : Int) true) (([] : List Int), (3 : Int)) := by
    refine Ev.step (f := fun _ => some (([] : List Int), (3 : Int))) (fun q => ?_) (Ev.now _)
    simp only [perm_Unrank.j1, if_true]
  by_cases h0 : k < 0
  · simp only [if_pos h0]
    exact fin
  · have h1 : decide (k ≥ ((fact n : Nat) : Int)) = true := decide_eq_true (by omega)
    simp only [if_neg h0, h1]
    exact fin
theorem perm_Unrank.ev_deg (n k : Int) (hn : degE n ≠ 0) : Ev (fun q => perm_Unrank.f q n k) ([], degE n) := by
  unfold perm_Unrank.f
  have hdeg : perm_checkDegree.f n = some (degE n) := by
    unfold perm_checkDegree.f degE
    split
    · rfl
    · split <;> rfl
  simp only [hdeg, Option.bind_some, if_neg hn]
  exact Ev.now _
end

/-! ### perm_number -/
theorem perm_number.l_ev (s : ByteArray) (hs : s.size ≤ 100000) (a : Nat) (ha : a ≤ s.size) : ∀ (d i : Nat), s.size - i = d → a ≤ i → i ≤ s.size → (∀ j, a ≤ j → j < i → dig s j = true) →
    Ev (fun q => perm_number.l0 q s (a : Int) (i : Int)) (if badN s a then ((0 : Int), (a : Int), false) else ((numV s a : Int), (endN s a : Int), true)) := by
  have fin : ∀ i, a ≤ i → i ≤ s.size → endN s a = i → (if (i : Int) = (a : Int) then (some ((0 : Int), (a : Int), false)) else (if (wrap64 ((i : Int) - (a : Int))) > 3 then (some (0, (a : Int), false)) else (if 0 ≤ (a : Int) then (if (a : Int) < (s.size : Int) then (if (bt s (a : Int)) = 48 then (if (wrap64 ((i : Int) - (a : Int))) > 1 then (some (0, (a : Int), false)) else (if (a : Int) ≤ (i : Int) then (if (i : Int) ≤ (s.size : Int) then ((strconv_Atoi_93.f (s.extract ((a : Int) : Int).toNat ((i : Int) : Int).toNat)).bind fun bt239 => (some (bt239.1, (i : Int), true))) else (none)) else (none))) else (if (a : Int) ≤ (i : Int) then (if (i : Int) ≤ (s.size : Int) then ((strconv_Atoi_93.f (s.extract ((a : Int) : Int).toNat ((i : Int) : Int).toNat)).bind fun bt241 => (some (bt241.1, (i : Int), true))) else (none)) else (none))) else (none)) else (none)))) = some (if badN s a then ((0 : Int), (a : Int), false) else ((numV s a : Int), (endN s a : Int), true)) := by
    intro i hai hi he
    by_cases h1 : i = a
    · rw [if_pos (by omega), if_pos (show badN s a from .inl (by omega))]
    · have w : wrap64 ((i : Int) - (a : Int)) = ((i - a : Nat) : Int) := by rw [w64_small (by omega) (by omega)]; omega
      rw [if_neg (by omega), w]
      by_cases h3 : 3 < i - a
      · rw [if_pos (by omega), if_pos (show badN s a from .inr (.inl (by omega)))]
      · have atoi : strconv_Atoi_93.f (s.extract ((a : Int) : Int).toNat ((i : Int) : Int).toNat) = some ((numV s a : Int), none) := by
          rw [Int.toNat_natCast, Int.toNat_natCast]
          unfold strconv_Atoi_93.f
          rw [if_pos (by rw [ByteArray.size_extract]; omega), atoi_valS (by omega) hi (fun j h h' => endN_dig s a j h (by omega))]
          unfold numV
          rw [he]
          rfl
        rw [if_neg (by omega), if_pos (by omega), if_pos (by omega), atoi]
        by_cases h4 : bt s (a : Int) = 48
        · rw [if_pos h4]
          by_cases h5 : 1 < i - a
          · rw [if_pos (by omega), if_pos (show badN s a from .inr (.inr ⟨h4, by omega⟩))]
          · have hb : ¬ badN s a := by
              unfold badN
              omega
            rw [if_neg (by omega), if_pos (by omega), if_pos (by omega), if_neg hb, he]
            rfl
        · have hb : ¬ badN s a := by
            unfold badN
            omega
          rw [if_neg h4, if_pos (by omega), if_pos (by omega), if_neg hb, he]
          rfl
  intro d
  induction d with
  | zero =>
    intro i hd hai hi hdig
    have he : endN s a = i := endN_eq hai hdig (by unfold dig; rw [decide_eq_false (by omega : ¬ i < s.size)]; rfl)
    refine Ev.step (f := fun _ => some _) (fun q => ?_) (Ev.now _)
    simp only [perm_number.l0]
    rw [if_neg (by omega)]
    exact fin i hai hi he
  | succ d ih =>
    intro i hd hai hi hdig
    by_cases hg : dig s i = true
    · have hb := dig_true hg
      refine Ev.step (fun q => ?_) (ih (i + 1) (by omega) (by omega) (by omega) (fun j h1 h2 => by
        rcases Nat.lt_or_eq_of_le (Nat.le_of_lt_succ h2) with h | h
        · exact hdig j h1 h
        · rw [h]; exact hg))
      simp only [perm_number.l0]
      rw [if_pos (by omega), if_pos (by omega), if_pos (by omega), if_pos (by omega), wrap_nat (by omega)]
    · have hg := Bool.eq_false_iff.2 hg
      have he : endN s a = i := endN_eq hai hdig hg
      have hb := dig_false hg (by omega)
      refine Ev.step (f := fun _ => some _) (fun q => ?_) (Ev.now _)
      simp only [perm_number.l0]
      rw [if_pos (by omega), if_pos (by omega)]
      by_cases h48 : bt s (i : Int) ≥ 48
      · rw [if_pos h48, if_neg (by omega)]
        exact fin i hai hi he
      · rw [if_neg h48]
        exact fin i hai hi he
theorem perm_number.ev (s : ByteArray) (hs : s.size ≤ 100000) (a : Nat) (ha : a ≤ s.size) : Ev (fun q => perm_number.f q s (a : Int)) (if badN s a then ((0 : Int), (a : Int), false) else ((numV s a : Int), (endN s a : Int), true)) :=
  perm_number.l_ev s hs a ha _ a rfl (Nat.le_refl _) ha (fun j h1 h2 => by omega)

/-! ### perm_lists -/
theorem perm_lists.l_ev (s : ByteArray) (hs : s.size ≤ 100000) : ∀ d,
    (∀ a out, a ≤ s.size → s.size + 2 ≤ d + a → out.length ≤ a → Ev (fun q => perm_lists.l0 q s out (a : Int)) (scanT s d a none out)) ∧
    (∀ a l out, a + 1 ≤ s.size → s.size + 2 ≤ d + (a + 1) → l.length ≤ a + 1 → out.length ≤ a → Ev (fun q => perm_lists.l1 q s out (a : Int) l) (scanT s d (a + 1) (some l) out)) := by
  intro d
  induction d with
  | zero => exact ⟨fun a out h1 h2 => by omega, fun a l out h1 h2 => by omega⟩
  | succ d IH =>
    constructor
    · intro a out ha hd ho
      unfold scanT
      by_cases hlt : a < s.size
      · rw [if_pos hlt]
        by_cases h40 : bt s (a : Int) = 40
        · rw [if_pos h40]
          refine Ev.step (fun q => ?_) (IH.2 a [] out (by omega) (by omega) (Nat.zero_le _) ho)
          simp only [perm_lists.l0]
          rw [if_pos (by omega), if_pos (by omega), if_pos h40]
        · rw [if_neg h40]
          refine Ev.step (f := fun _ => some _) (fun q => ?_) (Ev.now _)
          simp only [perm_lists.l0]
          rw [if_pos (by omega), if_pos (by omega), if_neg h40]
      · rw [if_neg hlt]
        refine Ev.step (f := fun _ => some _) (fun q => ?_) (Ev.now _)
        simp only [perm_lists.l0]
        rw [if_neg (by omega)]
    · intro a l out ha hd hl ho
      refine Ev.step (f := fun q => (perm_number.f q s ((a + 1 : Nat) : Int)).bind fun t => if t.2.2 = true then perm_lists.j2 q s out l t.1 t.2.1 (t.2.1 == (s.size : Int)) else perm_lists.j2 q s out l t.1 t.2.1 true) (fun q => by simp only [perm_lists.l1]; rw [wrap_nat (by omega)]) ?_
      refine Ev.bind (perm_number.ev s hs (a + 1) ha) ?_
      unfold scanT
      by_cases hb : badN s (a + 1)
      · simp only [if_pos hb, Bool.false_eq_true, if_false]
        exact Ev.step (f := fun _ => some (([] : List (List Int)), false)) (fun q => by simp only [perm_lists.j2, if_true]) (Ev.now _)
      · simp only [if_neg hb, if_true]
        have he := endN_le s (a + 1)
        have hes := endN_size s ha
        have hne : endN s (a + 1) ≠ a + 1 := fun e => hb (.inl e)
        generalize endN s (a + 1) = e at *
        by_cases hz : e = s.size
        · rw [if_pos hz, show ((e : Int) == (s.size : Int)) = true from beq_iff_eq.2 (by omega)]
          exact Ev.step (f := fun _ => some (([] : List (List Int)), false)) (fun q => by simp only [perm_lists.j2, if_true]) (Ev.now _)
        · rw [if_neg hz, show ((e : Int) == (s.size : Int)) = false from beq_eq_false_iff_ne.2 (by omega)]
          by_cases h41 : bt s (e : Int) = 41
          · rw [if_pos h41]
            refine Ev.step (fun q => ?_) (IH.1 (e + 1) (out ++ [l ++ [(numV s (a + 1) : Int)]]) (by omega) (by omega) (by rw [List.length_append, List.length_singleton]; omega))
            simp only [perm_lists.j2, Bool.false_eq_true, if_false, Option.bind_some]
            rw [if_pos (by omega), if_pos (by omega), if_pos (by omega), if_pos h41, if_pos (by omega), wrap_nat (by omega)]
          · rw [if_neg h41]
            by_cases h32 : bt s (e : Int) = 32
            · rw [if_pos h32]
              refine Ev.step (fun q => ?_) (IH.2 e (l ++ [(numV s (a + 1) : Int)]) out (by omega) (by omega) (by rw [List.length_append, List.length_singleton]; omega) (by omega))
              simp only [perm_lists.j2, Bool.false_eq_true, if_false, Option.bind_some]
              rw [if_pos (by omega), if_pos (by omega), if_pos (by omega), if_neg h41, if_pos h32]
            · rw [if_neg h32]
              refine Ev.step (f := fun _ => some _) (fun q => ?_) (Ev.now _)
              simp only [perm_lists.j2, Bool.false_eq_true, if_false, Option.bind_some]
              rw [if_pos (by omega), if_pos (by omega), if_pos (by omega), if_neg h41, if_neg h32]
theorem perm_lists.ev (s : ByteArray) (hs : s.size ≤ 100000) : Ev (fun q => perm_lists.f q s) (listsS s) := by
  unfold perm_lists.f listsS
  by_cases h : s.toList = ([40, 41] : List UInt8)
  · simp only [if_pos h]
    exact Ev.now _
  · simp only [if_neg h]
    exact (perm_lists.l_ev s hs (s.size + 2)).1 0 [] (Nat.zero_le _) (by omega) (Nat.zero_le _)

/-! ### perm_Parse -/
theorem perm_Parse.ev (n : Int) (s : ByteArray) (hs : s.size ≤ 2000 ∨ 4096 < s.size) : Ev (fun q => perm_Parse.f q n s) (parseS n s) := by
  have e : perm_checkDegree.f n = some (degE n) := by
    unfold perm_checkDegree.f degE
    split
    · rfl
    · split <;> rfl
  unfold perm_Parse.f parseS
  simp only [e, Option.bind_some]
  by_cases h : degE n = 0
  · simp only [if_pos h]
    by_cases h4 : 4096 < s.size
    · simp only [if_pos (by omega : (s.size : Int) > 4096), if_pos h4]
      exact Ev.now _
    · simp only [if_neg (by omega : ¬ (s.size : Int) > 4096), if_neg h4]
      refine Ev.bind (perm_lists.ev s (by omega)) ?_
      obtain ⟨h1, h2⟩ := listsS_short s
      by_cases hb : (listsS s).2 = true
      · simp only [if_pos hb]
        refine Ev.bind (perm_FromCycles.ev n (listsS s).1 (by omega) (fun c hc => by have := h2 c hc; omega)) ?_
        exact Ev.now _
      · simp only [if_neg hb]
        exact Ev.now _
  · simp only [if_neg h]
    exact Ev.now _

/-! ### galoisref22_Same -/
theorem galoisref22_Same.l_ev (a b : List Int) (hl : a.length = b.length) (hn : a.length < 4611686018427387904) : ∀ (d i : Nat), a.length - i = d → i ≤ a.length →
    Ev (fun k => galoisref22_Same.l0 k a b (i : Int)) (decide (a.drop i = b.drop i)) := by
  intro d
  induction d with
  | zero =>
    intro i hd hi
    rw [List.drop_eq_nil_of_le (by omega : a.length ≤ i), List.drop_eq_nil_of_le (by omega : b.length ≤ i)]
    refine Ev.step (f := fun _ => some true) (fun k => ?_) (Ev.now _)
    simp only [galoisref22_Same.l0]
    rw [if_neg (by omega)]
  | succ d ih =>
    intro i hd hi
    have ha : i < a.length := by omega
    have hb : i < b.length := by omega
    rw [List.drop_eq_getElem_cons ha, List.drop_eq_getElem_cons hb]
    by_cases e : a[i] = b[i]
    · refine Ev.step (f := fun k => galoisref22_Same.l0 k a b ((i + 1 : Nat) : Int)) (fun k => ?_) ?_
      · simp only [galoisref22_Same.l0]
        rw [if_pos (by omega), if_pos (by omega), if_pos (by omega), rd_get a i ha, rd_get b i hb, if_pos e, wrap_nat (by omega)]
      · rw [show decide (a[i] :: a.drop (i + 1) = b[i] :: b.drop (i + 1)) = decide (a.drop (i + 1) = b.drop (i + 1)) by rw [e]; simp only [List.cons.injEq, true_and]]
        exact ih (i + 1) (by omega) (by omega)
    · refine Ev.step (f := fun _ => some false) (fun k => ?_) ?_
      · simp only [galoisref22_Same.l0]
        rw [if_pos (by omega), if_pos (by omega), if_pos (by omega), rd_get a i ha, rd_get b i hb, if_neg e]
      · rw [show decide (a[i] :: a.drop (i + 1) = b[i] :: b.drop (i + 1)) = false by simp only [List.cons.injEq, e, false_and, decide_false]]
        exact Ev.now _
theorem galoisref22_Same.ev (a b : List Int) (hn : a.length < 4611686018427387904) : Ev (fun k => galoisref22_Same.f k a b) (decide (a = b)) := by
  unfold galoisref22_Same.f
  by_cases hl : a.length = b.length
  · refine Ev.congr (f := fun k => galoisref22_Same.l0 k a b ((0 : Nat) : Int)) (fun k => ?_) ?_
    · rw [if_pos (by omega)]; rfl
    · have := galoisref22_Same.l_ev a b hl hn _ 0 rfl (by omega)
      rwa [List.drop_zero, List.drop_zero] at this
  · refine Ev.congr (f := fun _ => some false) (fun k => ?_) ?_
    · rw [if_neg (by omega)]
    · rw [show decide (a = b) = false by
        rw [decide_eq_false_iff_not]; exact fun e => hl (by rw [e])]
      exact Ev.now _

/-! ### api_Perm_int_64 -/
theorem cmp_Compare_int.eq (a b : Int) : cmp_Compare_int.f a b = some (if a < b then -1 else if a > b then 1 else 0) := by
  unfold cmp_Compare_int.f cmp_isNaN_int.f
  simp only [bne_self_eq_false, Option.bind_some, Bool.false_eq_true, if_false]
  by_cases h1 : a < b
  · simp only [if_pos h1]
  · by_cases h2 : a > b
    · simp only [if_neg h1, if_pos h2]
    · simp only [if_neg h1, if_neg h2]
theorem api_Perm_int_64.l_ev (a b : List Int) (hl : a.length = b.length) (hn : a.length < 4611686018427387904) : ∀ (d i : Nat), a.length - i = d → i ≤ a.length →
    Ev (fun k => api_Perm_int_64.l0 k a b a (a.length : Int) (i : Int)) (cmpL (a.drop i) (b.drop i)) := by
  intro d
  induction d with
  | zero =>
    intro i hd hi
    rw [List.drop_eq_nil_of_le (by omega : a.length ≤ i)]
    refine Ev.step (f := fun _ => some 0) (fun k => ?_) (Ev.now _)
    simp only [api_Perm_int_64.l0]
    rw [if_neg (by omega), if_neg (by omega)]
  | succ d ih =>
    intro i hd hi
    have ha : i < a.length := by omega
    have hb : i < b.length := by omega
    have nx := ih (i + 1) (by omega) (by omega)
    rw [List.drop_eq_getElem_cons ha, List.drop_eq_getElem_cons hb]
    simp only [cmpL]
    have st : ∀ k, api_Perm_int_64.l0 (k + 1) a b a (a.length : Int) (i : Int) = if (if a[i] < b[i] then (-1 : Int) else if a[i] > b[i] then 1 else 0) = 0 then api_Perm_int_64.l0 k a b a (a.length : Int) ((i + 1 : Nat) : Int) else some (if a[i] < b[i] then (-1 : Int) else if a[i] > b[i] then 1 else 0) := by
      intro k
      simp only [api_Perm_int_64.l0]
      rw [if_pos (by omega), if_pos (by omega), if_pos (by omega), if_neg (by omega), if_pos (by omega), rd_get a i ha, rd_get b i hb, cmp_Compare_int.eq, Option.bind_some, wrap_nat (by omega)]
    by_cases h1 : a[i] < b[i]
    · rw [if_pos h1]
      exact Ev.step (f := fun _ => some (-1)) (fun k => by rw [st, if_pos h1, if_neg (by omega)]) (Ev.now _)
    · by_cases h2 : a[i] > b[i]
      · rw [if_neg h1, if_pos h2]
        exact Ev.step (f := fun _ => some 1) (fun k => by rw [st, if_neg h1, if_pos h2, if_neg (by omega)]) (Ev.now _)
      · rw [if_neg h1, if_neg h2]
        exact Ev.step (fun k => by rw [st, if_neg h1, if_neg h2, if_pos rfl]) nx
theorem api_Perm_int_64.ev (a b : List Int) (hl : a.length = b.length) (hn : a.length < 4611686018427387904) : Ev (fun k => api_Perm_int_64.f k a b) (cmpL a b) := by
  have := api_Perm_int_64.l_ev a b hl hn _ 0 rfl (Nat.zero_le _)
  rwa [List.drop_zero, List.drop_zero] at this

/-! ### perm_Compare -/
theorem perm_Compare.ev (a b : List Int) (h : chk2 a b = 0) (hl : a.length = b.length) (hn : a.length ≤ 20) : Ev (fun k => perm_Compare.f k a b) (cmpL a b, 0) := by
  unfold perm_Compare.f
  refine Ev.bind (perm_check2.ev _ _) ?_
  simp only [if_pos h]
  exact Ev.bind (api_Perm_int_64.ev a b hl (by omega)) (Ev.now _)
theorem perm_Compare.ev_bad (a b : List Int) (h : chk2 a b ≠ 0) : Ev (fun k => perm_Compare.f k a b) (0, chk2 a b) := by
  unfold perm_Compare.f
  refine Ev.bind (perm_check2.ev _ _) ?_
  simp only [if_neg h]
  exact Ev.now _

end Go.Proofs.YtoaalfpfklchfaaDoor.QPermBack
