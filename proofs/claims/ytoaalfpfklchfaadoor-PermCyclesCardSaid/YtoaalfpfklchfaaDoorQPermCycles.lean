/- What the printed functions come to: each in plain words (loops by induction). -/
import Derived.Test.YtoaalfpfklchfaaDoorPPermCyclesx2
import Derived.Test.YtoaalfpfklchfaaDoorPPermCyclesx4
import Derived.Test.YtoaalfpfklchfaaDoorPPermCyclesx5
import Derived.Test.YtoaalfpfklchfaaDoorPPermCyclesx6
import Derived.Test.YtoaalfpfklchfaaDoorPPermCyclesx7
import Derived.Test.YtoaalfpfklchfaaDoorLists
namespace Go.Proofs.YtoaalfpfklchfaaDoor.QPermCycles
open Go.RowKit Go.Proofs.YtoaalfpfklchfaaDoor.PPermCycles Go.Proofs.YtoaalfpfklchfaaDoorW.PrintWords Go.Proofs.YtoaalfpfklchfaaDoorW.PrintLast Go.Proofs.YtoaalfpfklchfaaDoor.Plain
set_option linter.unusedVariables false
set_option linter.unusedSimpArgs false

/-! ### awake22 -/
theorem galoislaw22_awake.ev : Ev (fun k => galoislaw22_awake.f k) true := Ev.of galoislaw22_awake.mono (k := 40) (by decide +kernel)

/-! ### rdL -/
theorem rdL_get (C : List (List Int)) (i : Nat) (h : i < C.length) : rd_L1 C (i : Int) = C[i] := by
  show C.getD i [] = _
  rw [List.getD_eq_getElem?_getD, List.getElem?_eq_getElem h]; rfl
theorem tmod_next (j n : Nat) (hj : j < 4611686018427387904) : Int.tmod (wrap64 ((j : Int) + 1)) (n : Int) = (((j + 1) % n : Nat) : Int) := by
  rw [wrap_nat hj, Int.ofNat_tmod]

/-! ### perm_identity -/
theorem perm_identity.l_ev (n : Nat) (hl : n ≤ 35184372088832) : ∀ (d i : Nat), n - i = d → i ≤ n →
    Ev (fun k => perm_identity.l0 k ((lf (fun i => i) n).take i ++ (List.replicate n 0).drop i) (n : Int) (i : Int)) (lf (fun i => i) n) := by
  have hm : (lf (fun i => i) n).length = n := lf_length _ _
  intro d
  induction d with
  | zero =>
    intro i hd hi
    have e : i = (lf (fun i => i) n).length := by omega
    refine Ev.step (f := fun _ => some (lf (fun i => i) n)) (fun k => ?_) (Ev.now _)
    simp only [perm_identity.l0]
    rw [if_neg (by omega), e, fill_end _ _ (by simp [hm])]
  | succ d ih =>
    intro i hd hi
    refine Ev.step (f := fun k => perm_identity.l0 k ((lf (fun i => i) n).take (i + 1) ++ (List.replicate n 0).drop (i + 1)) (n : Int) ((i + 1 : Nat) : Int)) (fun k => ?_) (ih (i + 1) (by omega) (by omega))
    simp only [perm_identity.l0]
    rw [if_pos (by omega), if_pos (by omega), if_pos (by rw [List.length_append, List.length_take, List.length_drop, List.length_replicate]; omega), wrap_nat (by omega)]
    rw [Int.toNat_natCast, set_fill (lf (fun i => i) n) (List.replicate n 0) i (i : Int) (by omega) (by simp [hm]) (lf_get? _ _ _ (by omega))]
theorem perm_identity.ev (n : Nat) (hl : n ≤ 35184372088832) : Ev (fun k => perm_identity.f k (n : Int)) (lf (fun i => i) n) := by
  refine Ev.congr (f := fun k => perm_identity.l0 k ((lf (fun i => i) n).take 0 ++ (List.replicate n 0).drop 0) (n : Int) ((0 : Nat) : Int)) (fun k => ?_) (perm_identity.l_ev n hl _ 0 rfl (Nat.zero_le _))
  unfold perm_identity.f
  rw [if_pos (by omega), if_pos (by omega)]
  simp

/-! ### perm_FromCycles -/
theorem perm_FromCycles.l3_ev (C : List (List Int)) (i : Nat) (c : List Int) (hc : c.length ≤ 40) (n : Nat) (hv : ∀ x ∈ c, 0 ≤ x ∧ x < (n : Int)) (p : List Int) (hp : p.length = n) (hi : i < 4611686018427387904) (R : List Int × Int)
    (next : Ev (fun k => perm_FromCycles.l2 k (fill1 c p c.length) C (C.length : Int) ((i + 1 : Nat) : Int)) R) : ∀ (d j : Nat), c.length - j = d → j ≤ c.length →
    Ev (fun k => perm_FromCycles.l3 k (fill1 c p j) c C (C.length : Int) (i : Int) c (c.length : Int) (j : Int)) R := by
  intro d
  induction d with
  | zero =>
    intro j hd hj
    have e : j = c.length := by omega
    subst e
    refine Ev.step (fun k => ?_) next
    simp only [perm_FromCycles.l3]
    rw [if_neg (by omega), wrap_nat hi]
  | succ d ih =>
    intro j hd hj
    have hlt : j < c.length := by omega
    have hx := hv c[j] (List.getElem_mem hlt)
    have hm := Nat.mod_lt (j + 1) (by omega : 0 < c.length)
    refine Ev.step (fun k => ?_) (ih (j + 1) (by omega) (by omega))
    simp only [perm_FromCycles.l3]
    rw [if_pos (by omega), if_pos (by omega), if_pos (by omega), if_neg (by omega), tmod_next j c.length (by omega), if_pos (by omega), if_pos (by omega), rd_get c j hlt, if_pos hx.1, if_pos (by rw [fill1_length]; omega), wrap_nat (by omega), fill1_succ]
    unfold stepC
    rw [List.getD_eq_getElem?_getD, List.getElem?_eq_getElem hlt]
    rfl
theorem perm_FromCycles.l2_ev (C : List (List Int)) (hC : C.length ≤ 40) (hc : ∀ c ∈ C, c.length ≤ 40) (n : Nat) (hv : ∀ c ∈ C, ∀ x ∈ c, 0 ≤ x ∧ x < (n : Int)) : ∀ (d i : Nat) (p : List Int), p.length = n → C.length - i = d → i ≤ C.length →
    Ev (fun k => perm_FromCycles.l2 k p C (C.length : Int) (i : Int)) (fillC p (C.drop i), 0) := by
  intro d
  induction d with
  | zero =>
    intro i p hp hd hi
    rw [List.drop_eq_nil_of_le (by omega : C.length ≤ i)]
    refine Ev.step (f := fun _ => some (p, 0)) (fun k => ?_) (Ev.now _)
    simp only [perm_FromCycles.l2]
    rw [if_neg (by omega)]
  | succ d ih =>
    intro i p hp hd hi
    have hlt : i < C.length := by omega
    have hm := List.getElem_mem hlt
    refine Ev.step (f := fun k => perm_FromCycles.l3 k (fill1 C[i] p 0) C[i] C (C.length : Int) (i : Int) C[i] (C[i].length : Int) ((0 : Nat) : Int)) (fun k => ?_) ?_
    · simp only [perm_FromCycles.l2]
      rw [if_pos (by omega), if_pos (by omega), if_pos (by omega), rdL_get C i hlt]
      rfl
    · refine perm_FromCycles.l3_ev C i C[i] (hc _ hm) n (hv _ hm) p hp (by omega) _ ?_ _ 0 rfl (Nat.zero_le _)
      rw [List.drop_eq_getElem_cons hlt]
      exact ih (i + 1) (fill1 C[i] p C[i].length) (by rw [fill1_length]; exact hp) (by omega) (by omega)
theorem perm_FromCycles.l1_ev (C : List (List Int)) (n : Nat) (hn : n ≤ 20) (F : List Int × Int) (i : Nat) (hi : i < C.length) (hC : C.length ≤ 40) (hc : C[i].length ≤ 40) (rest : List Int)
    (next : ∀ seen : List Bool, seen.length = n → (∀ x ∈ C[i], 0 ≤ x ∧ x < (n : Int)) → Ev (fun k => perm_FromCycles.l0 k (n : Int) C seen C (C.length : Int) ((i + 1 : Nat) : Int)) (scanR n F seen rest)) : ∀ (d j : Nat) (seen : List Bool), seen.length = n → (∀ x ∈ C[i].take j, 0 ≤ x ∧ x < (n : Int)) → C[i].length - j = d → j ≤ C[i].length →
    Ev (fun k => perm_FromCycles.l1 k (n : Int) C seen C (C.length : Int) (i : Int) C[i] (C[i].length : Int) (j : Int)) (scanR n F seen (C[i].drop j ++ rest)) := by
  intro d
  induction d with
  | zero =>
    intro j seen hs hv hd hj
    rw [List.drop_eq_nil_of_le (by omega), List.nil_append]
    refine Ev.step (fun k => ?_) (next seen hs (by rw [List.take_of_length_le (by omega)] at hv; exact hv))
    simp only [perm_FromCycles.l1]
    rw [if_neg (by omega), wrap_nat (by omega)]
  | succ d ih =>
    intro j seen hs hv hd hj
    have hlt : j < C[i].length := by omega
    rw [List.drop_eq_getElem_cons hlt, List.cons_append]
    simp only [scanR]
    have hb : ∀ b : Bool, (b = true ↔ (C[i][j] < 0 ∨ (n : Int) ≤ C[i][j])) → Ev (fun k => perm_FromCycles.j2 k (n : Int) C seen C[i][j] C (C.length : Int) (i : Int) C[i] (C[i].length : Int) (j : Int) b)
        (if C[i][j] < 0 ∨ (n : Int) ≤ C[i][j] then ([], 3) else if rdOf false seen C[i][j] = true then ([], 24) else scanR n F (seen.set C[i][j].toNat true) (C[i].drop (j + 1) ++ rest)) := by
      intro b hb
      by_cases h : b = true
      · rw [if_pos (hb.1 h)]
        refine Ev.step (f := fun _ => some ([], 3)) (fun k => ?_) (Ev.now _)
        simp only [perm_FromCycles.j2]
        rw [if_pos h]
      · have hr : ¬ (C[i][j] < 0 ∨ (n : Int) ≤ C[i][j]) := fun hh => h (hb.2 hh)
        rw [if_neg hr]
        by_cases hseen : rdOf false seen C[i][j] = true
        · rw [if_pos hseen]
          refine Ev.step (f := fun _ => some ([], 24)) (fun k => ?_) (Ev.now _)
          simp only [perm_FromCycles.j2]
          rw [if_neg h, if_pos (by omega), if_pos (by omega), if_pos hseen]
        · rw [if_neg hseen]
          refine Ev.step (fun k => ?_) (ih (j + 1) (seen.set C[i][j].toNat true) (by simp [hs]) ?_ (by omega) (by omega))
          · simp only [perm_FromCycles.j2]
            rw [if_neg h, if_pos (by omega), if_pos (by omega), if_neg hseen, wrap_nat (by omega)]
          · intro x hx
            rw [List.take_succ_eq_append_getElem hlt, List.mem_append, List.mem_singleton] at hx
            rcases hx with hx | rfl
            · exact hv x hx
            · omega
    by_cases h0 : C[i][j] < 0
    · refine Ev.step (fun k => ?_) (hb true ⟨fun _ => .inl h0, fun _ => rfl⟩)
      simp only [perm_FromCycles.l1]
      rw [if_pos (by omega), if_pos (by omega), if_pos (by omega), rd_get _ j hlt, if_pos h0]
    · refine Ev.step (fun k => ?_) (hb (decide (C[i][j] ≥ (n : Int))) ?_)
      · simp only [perm_FromCycles.l1]
        rw [if_pos (by omega), if_pos (by omega), if_pos (by omega), rd_get _ j hlt, if_neg h0]
      · rw [decide_eq_true_iff]
        exact ⟨fun h => .inr h, fun h => h.elim (fun hh => absurd hh h0) id⟩
theorem perm_FromCycles.l0_ev (C : List (List Int)) (n : Nat) (hn : n ≤ 20) (hC : C.length ≤ 40) (hc : ∀ c ∈ C, c.length ≤ 40) : ∀ (d i : Nat) (seen : List Bool), seen.length = n → (∀ c ∈ C.take i, ∀ x ∈ c, 0 ≤ x ∧ x < (n : Int)) → C.length - i = d → i ≤ C.length →
    Ev (fun k => perm_FromCycles.l0 k (n : Int) C seen C (C.length : Int) (i : Int)) (scanR n (fillC (lf (fun i => i) n) C, 0) seen (C.drop i).flatten) := by
  intro d
  induction d with
  | zero =>
    intro i seen hs hv hd hi
    rw [List.drop_eq_nil_of_le (by omega : C.length ≤ i)]
    rw [List.take_of_length_le (by omega)] at hv
    refine Ev.step (f := fun k => (perm_identity.f k (n : Int)).bind fun t => perm_FromCycles.l2 k t C (C.length : Int) ((0 : Nat) : Int)) (fun k => ?_) (Ev.bind (perm_identity.ev n (by omega)) ?_)
    · simp only [perm_FromCycles.l0]
      rw [if_neg (by omega)]
      rfl
    · have := perm_FromCycles.l2_ev C hC hc n hv _ 0 (lf (fun i => i) n) (lf_length _ _) rfl (Nat.zero_le _)
      rwa [List.drop_zero] at this
  | succ d ih =>
    intro i seen hs hv hd hi
    have hlt : i < C.length := by omega
    rw [List.drop_eq_getElem_cons hlt, List.flatten_cons]
    refine Ev.step (f := fun k => perm_FromCycles.l1 k (n : Int) C seen C (C.length : Int) (i : Int) C[i] (C[i].length : Int) ((0 : Nat) : Int)) (fun k => ?_) ?_
    · simp only [perm_FromCycles.l0]
      rw [if_pos (by omega), if_pos (by omega), if_pos (by omega), rdL_get C i hlt]
      rfl
    · have := perm_FromCycles.l1_ev C n hn (fillC (lf (fun i => i) n) C, 0) i hlt hC (hc _ (List.getElem_mem hlt)) (C.drop (i + 1)).flatten (fun seen' hs' hv' => ih (i + 1) seen' hs' (by
        intro c hcm
        rw [List.take_succ_eq_append_getElem hlt, List.mem_append, List.mem_singleton] at hcm
        rcases hcm with hcm | rfl
        · exact hv c hcm
        · exact hv') (by omega) (by omega)) _ 0 seen hs (by simp) rfl (Nat.zero_le _)
      rwa [List.drop_zero] at this
theorem perm_FromCycles.ev (n : Int) (C : List (List Int)) (hC : C.length ≤ 40) (hc : ∀ c ∈ C, c.length ≤ 40) : Ev (fun k => perm_FromCycles.f k n C) (fromC n C) := by
  have e : perm_checkDegree.f n = some (degE n) := by
    unfold perm_checkDegree.f degE
    split
    · rfl
    · split <;> rfl
  unfold perm_FromCycles.f fromC
  simp only [e, Option.bind_some]
  by_cases h : degE n = 0
  · obtain ⟨m, rfl, hm⟩ := degE_zero h
    simp only [if_pos h]
    refine Ev.congr (fun k => ?_) (perm_FromCycles.l0_ev C m hm hC hc _ 0 (List.replicate m false) (by simp) (by simp) rfl (Nat.zero_le _))
    rw [if_pos (by omega), if_pos (by omega)]
    rfl
  · simp only [if_neg h]
    exact Ev.now _

/-! ### galoisref22_Identity -/
theorem galoisref22_Identity.l_ev (n : Nat) (hl : n ≤ 35184372088832) : ∀ (d i : Nat), n - i = d → i ≤ n →
    Ev (fun k => galoisref22_Identity.l0 k (n : Int) ((lf (fun i => i) n).take i ++ (List.replicate n 0).drop i) (i : Int)) (lf (fun i => i) n) := by
  have hm : (lf (fun i => i) n).length = n := lf_length _ _
  intro d
  induction d with
  | zero =>
    intro i hd hi
    have e : i = (lf (fun i => i) n).length := by omega
    refine Ev.step (f := fun _ => some (lf (fun i => i) n)) (fun k => ?_) (Ev.now _)
    simp only [galoisref22_Identity.l0]
    rw [if_neg (by omega), e, fill_end _ _ (by simp [hm])]
  | succ d ih =>
    intro i hd hi
    refine Ev.step (f := fun k => galoisref22_Identity.l0 k (n : Int) ((lf (fun i => i) n).take (i + 1) ++ (List.replicate n 0).drop (i + 1)) ((i + 1 : Nat) : Int)) (fun k => ?_) (ih (i + 1) (by omega) (by omega))
    simp only [galoisref22_Identity.l0]
    rw [if_pos (by omega), if_pos (by omega), if_pos (by rw [List.length_append, List.length_take, List.length_drop, List.length_replicate]; omega), wrap_nat (by omega)]
    rw [Int.toNat_natCast, set_fill (lf (fun i => i) n) (List.replicate n 0) i (i : Int) (by omega) (by simp [hm]) (lf_get? _ _ _ (by omega))]
theorem galoisref22_Identity.ev (n : Nat) (hl : n ≤ 35184372088832) : Ev (fun k => galoisref22_Identity.f k (n : Int)) (lf (fun i => i) n) := by
  refine Ev.congr (fun k => ?_) (galoisref22_Identity.l_ev n hl _ 0 rfl (Nat.zero_le _))
  unfold galoisref22_Identity.f
  rw [if_pos (by omega), if_pos (by omega)]
  simp

/-! ### galoisref22_FromCycles -/
theorem galoisref22_FromCycles.l3_ev (C : List (List Int)) (i : Nat) (hil : i < C.length) (hc : C[i].length ≤ 40) (n : Nat) (hv : ∀ x ∈ C[i], 0 ≤ x ∧ x < (n : Int)) (p : List Int) (hp : p.length = n) (hi : i < 4611686018427387904) (R : List Int × Int)
    (next : Ev (fun k => galoisref22_FromCycles.l2 k C (fill1 C[i] p C[i].length) ((i + 1 : Nat) : Int)) R) : ∀ (d j : Nat), C[i].length - j = d → j ≤ C[i].length →
    Ev (fun k => galoisref22_FromCycles.l3 k C (fill1 C[i] p j) (i : Int) (j : Int)) R := by
  intro d
  induction d with
  | zero =>
    intro j hd hj
    have e : j = C[i].length := by omega
    subst e
    refine Ev.step (fun k => ?_) next
    simp only [galoisref22_FromCycles.l3]
    rw [if_pos (by omega), if_pos (by omega), rdL_get C i hil, if_neg (by omega), wrap_nat hi]
  | succ d ih =>
    intro j hd hj
    have hlt : j < C[i].length := by omega
    have hx := hv C[i][j] (List.getElem_mem hlt)
    have hm := Nat.mod_lt (j + 1) (by omega : 0 < C[i].length)
    refine Ev.step (fun k => ?_) (ih (j + 1) (by omega) (by omega))
    simp only [galoisref22_FromCycles.l3]
    rw [if_pos (by omega), if_pos (by omega), rdL_get C i hil, if_pos (by omega), if_pos (by omega), if_neg (by omega), tmod_next j C[i].length (by omega), if_pos (by omega), if_pos (by omega), rd_get _ j hlt, if_pos hx.1, if_pos (by rw [fill1_length]; omega), wrap_nat (by omega), fill1_succ]
    unfold stepC
    rw [List.getD_eq_getElem?_getD, List.getElem?_eq_getElem hlt]
    rfl
theorem galoisref22_FromCycles.l2_ev (C : List (List Int)) (hC : C.length ≤ 40) (hc : ∀ c ∈ C, c.length ≤ 40) (n : Nat) (hv : ∀ c ∈ C, ∀ x ∈ c, 0 ≤ x ∧ x < (n : Int)) : ∀ (d i : Nat) (p : List Int), p.length = n → C.length - i = d → i ≤ C.length →
    Ev (fun k => galoisref22_FromCycles.l2 k C p (i : Int)) (fillC p (C.drop i), 0) := by
  intro d
  induction d with
  | zero =>
    intro i p hp hd hi
    rw [List.drop_eq_nil_of_le (by omega : C.length ≤ i)]
    refine Ev.step (f := fun _ => some (p, 0)) (fun k => ?_) (Ev.now _)
    simp only [galoisref22_FromCycles.l2]
    rw [if_neg (by omega)]
  | succ d ih =>
    intro i p hp hd hi
    have hlt : i < C.length := by omega
    have hm := List.getElem_mem hlt
    refine Ev.step (f := fun k => galoisref22_FromCycles.l3 k C (fill1 C[i] p 0) (i : Int) ((0 : Nat) : Int)) (fun k => ?_) ?_
    · simp only [galoisref22_FromCycles.l2]
      rw [if_pos (by omega)]
      rfl
    · refine galoisref22_FromCycles.l3_ev C i hlt (hc _ hm) n (hv _ hm) p hp (by omega) _ ?_ _ 0 rfl (Nat.zero_le _)
      rw [List.drop_eq_getElem_cons hlt]
      exact ih (i + 1) (fill1 C[i] p C[i].length) (by rw [fill1_length]; exact hp) (by omega) (by omega)
theorem galoisref22_FromCycles.l1_ev (C : List (List Int)) (n : Nat) (hn : n ≤ 20) (out : List Int) (F : List Int × Int) (i : Nat) (hi : i < C.length) (hC : C.length ≤ 40) (hc : C[i].length ≤ 40) (rest : List Int)
    (next : ∀ seen : List Bool, seen.length = n → (∀ x ∈ C[i], 0 ≤ x ∧ x < (n : Int)) → Ev (fun k => galoisref22_FromCycles.l0 k (n : Int) C out seen ((i + 1 : Nat) : Int)) (scanR n F seen rest)) : ∀ (d j : Nat) (seen : List Bool), seen.length = n → (∀ x ∈ C[i].take j, 0 ≤ x ∧ x < (n : Int)) → C[i].length - j = d → j ≤ C[i].length →
    Ev (fun k => galoisref22_FromCycles.l1 k (n : Int) C out seen (i : Int) (j : Int)) (scanR n F seen (C[i].drop j ++ rest)) := by
  intro d
  induction d with
  | zero =>
    intro j seen hs hv hd hj
    rw [List.drop_eq_nil_of_le (by omega), List.nil_append]
    refine Ev.step (fun k => ?_) (next seen hs (by rw [List.take_of_length_le (by omega)] at hv; exact hv))
    simp only [galoisref22_FromCycles.l1]
    rw [if_pos (by omega), if_pos (by omega), rdL_get C i hi, if_neg (by omega), wrap_nat (by omega)]
  | succ d ih =>
    intro j seen hs hv hd hj
    have hlt : j < C[i].length := by omega
    rw [List.drop_eq_getElem_cons hlt, List.cons_append]
    simp only [scanR]
    have hb : ∀ b : Bool, (b = true ↔ (C[i][j] < 0 ∨ (n : Int) ≤ C[i][j])) → Ev (fun k => galoisref22_FromCycles.j2 k (n : Int) C out seen (i : Int) (j : Int) C[i][j] b)
        (if C[i][j] < 0 ∨ (n : Int) ≤ C[i][j] then ([], 3) else if rdOf false seen C[i][j] = true then ([], 24) else scanR n F (seen.set C[i][j].toNat true) (C[i].drop (j + 1) ++ rest)) := by
      intro b hb
      by_cases h : b = true
      · rw [if_pos (hb.1 h)]
        refine Ev.step (f := fun _ => some ([], 3)) (fun k => ?_) (Ev.now _)
        simp only [galoisref22_FromCycles.j2]
        rw [if_pos h]
      · have hr : ¬ (C[i][j] < 0 ∨ (n : Int) ≤ C[i][j]) := fun hh => h (hb.2 hh)
        rw [if_neg hr]
        by_cases hseen : rdOf false seen C[i][j] = true
        · rw [if_pos hseen]
          refine Ev.step (f := fun _ => some ([], 24)) (fun k => ?_) (Ev.now _)
          simp only [galoisref22_FromCycles.j2]
          rw [if_neg h, if_pos (by omega), if_pos (by omega), if_pos hseen]
        · rw [if_neg hseen]
          refine Ev.step (fun k => ?_) (ih (j + 1) (seen.set C[i][j].toNat true) (by simp [hs]) ?_ (by omega) (by omega))
          · simp only [galoisref22_FromCycles.j2]
            rw [if_neg h, if_pos (by omega), if_pos (by omega), if_neg hseen, wrap_nat (by omega)]
          · intro x hx
            rw [List.take_succ_eq_append_getElem hlt, List.mem_append, List.mem_singleton] at hx
            rcases hx with hx | rfl
            · exact hv x hx
            · omega
    by_cases h0 : C[i][j] < 0
    · refine Ev.step (fun k => ?_) (hb true ⟨fun _ => .inl h0, fun _ => rfl⟩)
      simp only [galoisref22_FromCycles.l1]
      rw [if_pos (by omega), if_pos (by omega), rdL_get C i hi, if_pos (by omega), if_pos (by omega), rd_get _ j hlt, if_pos h0]
    · refine Ev.step (fun k => ?_) (hb (decide (C[i][j] ≥ (n : Int))) ?_)
      · simp only [galoisref22_FromCycles.l1]
        rw [if_pos (by omega), if_pos (by omega), rdL_get C i hi, if_pos (by omega), if_pos (by omega), rd_get _ j hlt, if_neg h0]
      · rw [decide_eq_true_iff]
        exact ⟨fun h => .inr h, fun h => h.elim (fun hh => absurd hh h0) id⟩
theorem galoisref22_FromCycles.l0_ev (C : List (List Int)) (n : Nat) (hn : n ≤ 20) (hC : C.length ≤ 40) (hc : ∀ c ∈ C, c.length ≤ 40) : ∀ (d i : Nat) (seen : List Bool), seen.length = n → (∀ c ∈ C.take i, ∀ x ∈ c, 0 ≤ x ∧ x < (n : Int)) → C.length - i = d → i ≤ C.length →
    Ev (fun k => galoisref22_FromCycles.l0 k (n : Int) C (lf (fun i => i) n) seen (i : Int)) (scanR n (fillC (lf (fun i => i) n) C, 0) seen (C.drop i).flatten) := by
  intro d
  induction d with
  | zero =>
    intro i seen hs hv hd hi
    rw [List.drop_eq_nil_of_le (by omega : C.length ≤ i)]
    rw [List.take_of_length_le (by omega)] at hv
    have := galoisref22_FromCycles.l2_ev C hC hc n hv _ 0 (lf (fun i => i) n) (lf_length _ _) rfl (Nat.zero_le _)
    rw [List.drop_zero] at this
    refine Ev.step (fun k => ?_) this
    simp only [galoisref22_FromCycles.l0]
    rw [if_neg (by omega)]
    rfl
  | succ d ih =>
    intro i seen hs hv hd hi
    have hlt : i < C.length := by omega
    rw [List.drop_eq_getElem_cons hlt, List.flatten_cons]
    refine Ev.step (f := fun k => galoisref22_FromCycles.l1 k (n : Int) C (lf (fun i => i) n) seen (i : Int) ((0 : Nat) : Int)) (fun k => ?_) ?_
    · simp only [galoisref22_FromCycles.l0]
      rw [if_pos (by omega)]
      rfl
    · have := galoisref22_FromCycles.l1_ev C n hn (lf (fun i => i) n) (fillC (lf (fun i => i) n) C, 0) i hlt hC (hc _ (List.getElem_mem hlt)) (C.drop (i + 1)).flatten (fun seen' hs' hv' => ih (i + 1) seen' hs' (by
        intro c hcm
        rw [List.take_succ_eq_append_getElem hlt, List.mem_append, List.mem_singleton] at hcm
        rcases hcm with hcm | rfl
        · exact hv c hcm
        · exact hv') (by omega) (by omega)) _ 0 seen hs (by simp) rfl (Nat.zero_le _)
      rwa [List.drop_zero] at this
theorem galoisref22_Degree.eq (n : Int) : galoisref22_Degree.f n = some (degE n) := by
  unfold galoisref22_Degree.f degE
  split
  · rfl
  · split <;> rfl
theorem galoisref22_FromCycles.ev (n : Int) (C : List (List Int)) (hC : C.length ≤ 40) (hc : ∀ c ∈ C, c.length ≤ 40) : Ev (fun k => galoisref22_FromCycles.f k n C) (fromC n C) := by
  unfold galoisref22_FromCycles.f fromC
  simp only [galoisref22_Degree.eq n, Option.bind_some]
  by_cases h : degE n = 0
  · obtain ⟨m, rfl, hm⟩ := degE_zero h
    simp only [if_pos h]
    refine Ev.bind (galoisref22_Identity.ev m (by omega)) ?_
    refine Ev.congr (fun k => ?_) (galoisref22_FromCycles.l0_ev C m hm hC hc _ 0 (List.replicate m false) (by simp) (by simp) rfl (Nat.zero_le _))
    rw [if_pos (by omega), if_pos (by omega)]
    rfl
  · simp only [if_neg h]
    exact Ev.now _

/-! ### galoisref22_Same -/
theorem galoisref22_Same.l_ev (a b : List Int) (hl : a.length = b.length) (hn : a.length < 4611686018427387904) : ∀ (d i : Nat), a.length - i = d → i ≤ a.length →
    Ev (fun k => galoisref22_Same.l0 k a b (i : Int)) (decide (a.drop i = b.drop i)) := by
  intro d
  induction d with
  | zero =>
    intro i hd hi
    rw [List.drop_eq_nil_of_le (by omega : a.length ≤ i), List.drop_eq_nil_of_le (by omega : b.length ≤ i)]
    refine Ev.step (f := fun _ => some true) (fun k => ?_) (Ev.now _)
    simp only [galoisref22_Same.l0]
    rw [if_neg (by omega)]
  | succ d ih =>
    intro i hd hi
    have ha : i < a.length := by omega
    have hb : i < b.length := by omega
    rw [List.drop_eq_getElem_cons ha, List.drop_eq_getElem_cons hb]
    by_cases e : a[i] = b[i]
    · refine Ev.step (f := fun k => galoisref22_Same.l0 k a b ((i + 1 : Nat) : Int)) (fun k => ?_) ?_
      · simp only [galoisref22_Same.l0]
        rw [if_pos (by omega), if_pos (by omega), if_pos (by omega), rd_get a i ha, rd_get b i hb, if_pos e, wrap_nat (by omega)]
      · rw [show decide (a[i] :: a.drop (i + 1) = b[i] :: b.drop (i + 1)) = decide (a.drop (i + 1) = b.drop (i + 1)) by rw [e]; simp only [List.cons.injEq, true_and]]
        exact ih (i + 1) (by omega) (by omega)
    · refine Ev.step (f := fun _ => some false) (fun k => ?_) ?_
      · simp only [galoisref22_Same.l0]
        rw [if_pos (by omega), if_pos (by omega), if_pos (by omega), rd_get a i ha, rd_get b i hb, if_neg e]
      · rw [show decide (a[i] :: a.drop (i + 1) = b[i] :: b.drop (i + 1)) = false by simp only [List.cons.injEq, e, false_and, decide_false]]
        exact Ev.now _
theorem galoisref22_Same.ev (a b : List Int) (hn : a.length < 4611686018427387904) : Ev (fun k => galoisref22_Same.f k a b) (decide (a = b)) := by
  unfold galoisref22_Same.f
  by_cases hl : a.length = b.length
  · refine Ev.congr (f := fun k => galoisref22_Same.l0 k a b ((0 : Nat) : Int)) (fun k => ?_) ?_
    · rw [if_pos (by omega)]; rfl
    · have := galoisref22_Same.l_ev a b hl hn _ 0 rfl (by omega)
      rwa [List.drop_zero, List.drop_zero] at this
  · refine Ev.congr (f := fun _ => some false) (fun k => ?_) ?_
    · rw [if_neg (by omega)]
    · rw [show decide (a = b) = false by
        rw [decide_eq_false_iff_not]; exact fun e => hl (by rw [e])]
      exact Ev.now _

/-! ### galoislaw22_few -/
theorem galoislaw22_few.l_ev (l : List (List Int)) (hn : l.length < 4611686018427387904) : ∀ (d i : Nat), l.length - i = d → i ≤ l.length →
    Ev (fun k => galoislaw22_few.l0 k l (i : Int)) ((l.drop i).all fun x => decide (x.length ≤ 40)) := by
  intro d
  induction d with
  | zero =>
    intro i hd hi
    rw [List.drop_eq_nil_of_le (by omega : l.length ≤ i)]
    refine Ev.step (f := fun _ => some true) (fun k => ?_) (Ev.now _)
    simp only [galoislaw22_few.l0]
    rw [if_neg (by omega)]
  | succ d ih =>
    intro i hd hi
    have ha : i < l.length := by omega
    have hg : rd_L1 l (i : Int) = l[i] := by
      show l.getD i [] = _
      rw [List.getD_eq_getElem?_getD, List.getElem?_eq_getElem ha]; rfl
    rw [List.drop_eq_getElem_cons ha, List.all_cons]
    by_cases e : l[i].length ≤ 40
    · refine Ev.step (f := fun k => galoislaw22_few.l0 k l ((i + 1 : Nat) : Int)) (fun k => ?_) ?_
      · simp only [galoislaw22_few.l0]
        rw [if_pos (by omega), if_pos (by omega), hg, if_neg (by omega), wrap_nat (by omega)]
      · rw [decide_eq_true e, Bool.true_and]
        exact ih (i + 1) (by omega) (by omega)
    · refine Ev.step (f := fun _ => some false) (fun k => ?_) ?_
      · simp only [galoislaw22_few.l0]
        rw [if_pos (by omega), if_pos (by omega), hg, if_pos (by omega)]
      · rw [decide_eq_false e, Bool.false_and]
        exact Ev.now _
theorem galoislaw22_few.ev (l : List (List Int)) (hn : l.length < 4611686018427387904) : Ev (fun k => galoislaw22_few.f k l) (l.all fun x => decide (x.length ≤ 40)) := by
  have := galoislaw22_few.l_ev l hn _ 0 rfl (by omega)
  rwa [List.drop_zero] at this

/-! ### perm_Identity -/
theorem perm_Identity.ev (n : Nat) (hn : n ≤ 20) : Ev (fun k => perm_Identity.f k (n : Int)) (lf (fun i => i) n, 0) := by
  unfold perm_Identity.f perm_checkDegree.f
  refine Ev.congr (f := fun k => (perm_identity.f k (n : Int)).bind fun t => some (t, 0)) (fun k => ?_) (Ev.bind (perm_identity.ev n (by omega)) (Ev.now _))
  rw [if_neg (by omega), if_neg (by omega)]
  rfl
theorem perm_Identity.ev_bad (n : Int) (h : degE n ≠ 0) : Ev (fun k => perm_Identity.f k n) ([], degE n) := by
  unfold perm_Identity.f perm_checkDegree.f
  unfold degE at *
  refine Ev.congr (f := fun _ => some ([], if n < 0 then 3 else if n > 20 then 4 else 0)) (fun k => ?_) (Ev.now _)
  by_cases h1 : n < 0
  · rw [if_pos h1, if_pos h1]; rfl
  · by_cases h2 : n > 20
    · rw [if_neg h1, if_pos h2, if_neg h1, if_pos h2]; rfl
    · rw [if_neg h1, if_neg h2] at h
      exact absurd rfl h

end Go.Proofs.YtoaalfpfklchfaaDoor.QPermCycles
