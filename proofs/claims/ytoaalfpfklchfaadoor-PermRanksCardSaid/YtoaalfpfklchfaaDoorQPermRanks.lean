/- What the printed functions come to: each in plain words (loops by induction). -/
import Derived.Test.YtoaalfpfklchfaaDoorPPermRanksx1
import Derived.Test.YtoaalfpfklchfaaDoorPPermRanksx2
import Derived.Test.YtoaalfpfklchfaaDoorPPermRanksx3
import Derived.Test.YtoaalfpfklchfaaDoorPPermRanksx4
import Derived.Test.YtoaalfpfklchfaaDoorPPermRanksx5
import Derived.Test.YtoaalfpfklchfaaDoorLists
import Derived.Test.YtoaalfpfklchfaaDoorRanks
import Derived.Test.YtoaalfpfklchfaaDoorSigns
import Derived.Test.YtoaalfpfklchfaaDoorUnranks
namespace Go.Proofs.YtoaalfpfklchfaaDoor.QPermRanks
open Go.RowKit Go.Proofs.YtoaalfpfklchfaaDoor.PPermRanks Go.Proofs.YtoaalfpfklchfaaDoorW.PrintWords Go.Proofs.YtoaalfpfklchfaaDoorW.PrintLast Go.Proofs.YtoaalfpfklchfaaDoor.Plain
set_option linter.unusedVariables false
set_option linter.unusedSimpArgs false

/-! ### awake22 -/
theorem galoislaw22_awake.ev : Ev (fun k => galoislaw22_awake.f k) true := Ev.of galoislaw22_awake.mono (k := 40) (by decide +kernel)

/-! ### perm_identity -/
theorem perm_identity.l_ev (n : Nat) (hl : n ≤ 35184372088832) : ∀ (d i : Nat), n - i = d → i ≤ n →
    Ev (fun k => perm_identity.l0 k ((lf (fun i => i) n).take i ++ (List.replicate n 0).drop i) (n : Int) (i : Int)) (lf (fun i => i) n) := by
  have hm : (lf (fun i => i) n).length = n := lf_length _ _
  intro d
  induction d with
  | zero =>
    intro i hd hi
    have e : i = (lf (fun i => i) n).length := by omega
    refine Ev.step (f := fun _ => some (lf (fun i => i) n)) (fun k => ?_) (Ev.now _)
    simp only [perm_identity.l0]
    rw [if_neg (by omega), e, fill_end _ _ (by simp [hm])]
  | succ d ih =>
    intro i hd hi
    refine Ev.step (f := fun k => perm_identity.l0 k ((lf (fun i => i) n).take (i + 1) ++ (List.replicate n 0).drop (i + 1)) (n : Int) ((i + 1 : Nat) : Int)) (fun k => ?_) (ih (i + 1) (by omega) (by omega))
    simp only [perm_identity.l0]
    rw [if_pos (by omega), if_pos (by omega), if_pos (by rw [List.length_append, List.length_take, List.length_drop, List.length_replicate]; omega), wrap_nat (by omega)]
    rw [Int.toNat_natCast, set_fill (lf (fun i => i) n) (List.replicate n 0) i (i : Int) (by omega) (by simp [hm]) (lf_get? _ _ _ (by omega))]
theorem perm_identity.ev (n : Nat) (hl : n ≤ 35184372088832) : Ev (fun k => perm_identity.f k (n : Int)) (lf (fun i => i) n) := by
  refine Ev.congr (f := fun k => perm_identity.l0 k ((lf (fun i => i) n).take 0 ++ (List.replicate n 0).drop 0) (n : Int) ((0 : Nat) : Int)) (fun k => ?_) (perm_identity.l_ev n hl _ 0 rfl (Nat.zero_le _))
  unfold perm_identity.f
  rw [if_pos (by omega), if_pos (by omega)]
  simp

/-! ### perm_Unrank -/
section
attribute [local irreducible] fact
theorem perm_Unrank.l1_ev (i : Nat) : ∀ (hi : i ≤ 20) (rest p : List Int) (k : Nat), rest.length = i → k < fact i → p.length + i ≤ 40 →
    Ev (fun q => perm_Unrank.l1 q (k : Int) ((fact i : Nat) : Int) rest p (i : Int)) (p ++ unr i rest k, 0) := by
  induction i with
  | zero =>
    intro hi rest p k hm hk hp
    refine Ev.step (f := fun _ => some (p ++ unr 0 rest k, 0)) (fun q => ?_) (Ev.now _)
    simp only [perm_Unrank.l1, unr, List.append_nil]
    rw [if_neg (by omega)]
  | succ i IH =>
    intro hi rest p k hm hk hp
    have hf := fact_20 (show i ≤ 20 by omega)
    have hf1 := fact_20 hi
    have hp0 := fact_pos i
    have hd := div_fact hk
    have hmod := Nat.mod_lt k hp0
    have U : unr (i + 1) rest k = rest.getD (k / fact i) 0 :: unr i (rest.take (k / fact i) ++ rest.drop (k / fact i + 1)) (k % fact i) := rfl
    have e1 : wrap64 (Int.tdiv ((fact (i + 1) : Nat) : Int) ((i + 1 : Nat) : Int)) = ((fact i : Nat) : Int) := by
      rw [← Int.ofNat_tdiv, fact_succ, Nat.mul_div_cancel_left _ (Nat.succ_pos i), w64_small (by omega) (by omega)]
    have e2 : Int.tdiv (k : Int) ((fact i : Nat) : Int) = ((k / fact i : Nat) : Int) := (Int.ofNat_tdiv _ _).symm
    have e4 : Int.tmod (k : Int) ((fact i : Nat) : Int) = ((k % fact i : Nat) : Int) := (Int.ofNat_tmod _ _).symm
    generalize k / fact i = d at *
    generalize k % fact i = r at *
    have hd20 : d < 20 := Nat.lt_of_lt_of_le hd hi
    have e3 : wrap64 ((d : Int) + 1) = ((d + 1 : Nat) : Int) := wrap_nat (Nat.lt_trans hd20 (by decide))
    have e2' : wrap64 (d : Int) = (d : Int) := by clear e1 e2 e3 e4 U; exact w64_small (by omega) (by omega)
    have e5 : wrap64 (((i + 1 : Nat) : Int) - 1) = (i : Int) := by
      clear e1 e2 e2' e3 e4 U hk hf hf1 hp0 hmod IH
      rw [w64_small (by omega) (by omega)]; omega
    have hdl : d < rest.length := by rw [hm]; exact hd
    have hcut : (rest.take d ++ rest.drop (d + 1)).length = i := cut_length hm hdl
    have hpl : (p ++ [rest.getD d 0]).length + i ≤ 40 := by
      rw [List.length_append, List.length_singleton]
      clear e1 e2 e2' e3 e4 e5 U hk hf hf1 hp0 hmod IH
      omega
    have hi' : i ≤ 20 := Nat.le_of_succ_le hi
    have ih := IH hi' (rest.take d ++ rest.drop (d + 1)) (p ++ [rest.getD d 0]) r hcut hmod hpl
    have R : p ++ unr (i + 1) rest k = p ++ [rest.getD d 0] ++ unr i (rest.take d ++ rest.drop (d + 1)) r := by
      rw [U, List.append_assoc, List.singleton_append]
    rw [R]
    refine Ev.step (fun q => ?_) ih
    simp only [perm_Unrank.l1, e1, e2, e2', e3, e4, e5, Int.toNat_natCast, rd_nat]
    clear e1 e2 e2' e3 e4 e5 U R IH ih hf1 hk hmod
    rw [if_pos (by omega), if_neg (by omega), if_neg (by omega), if_pos (by omega), if_pos (by omega), if_pos (by omega), if_pos (by omega), if_pos (by omega)]
theorem perm_Unrank.l0_ev (n : Nat) (hn : n ≤ 20) (k : Int) (R : List Int × Int) (next : Ev (fun q => if k < 0 then perm_Unrank.j1 q (n : Int) k ((fact n : Nat) : Int) true else perm_Unrank.j1 q (n : Int) k ((fact n : Nat) : Int) (decide (k ≥ ((fact n : Nat) : Int)))) R) : ∀ (d i : Nat), n - i = d → i ≤ n →
    Ev (fun q => perm_Unrank.l0 q (n : Int) k ((fact i : Nat) : Int) (n : Int) (i : Int)) R := by
  intro d
  induction d with
  | zero =>
    intro i hd hi
    have e : i = n := by omega
    subst e
    refine Ev.step (fun q => ?_) next
    simp only [perm_Unrank.l0]
    rw [if_neg (by omega)]
  | succ d ih =>
    intro i hd hi
    refine Ev.step (fun q => ?_) (ih (i + 1) (by omega) (by omega))
    simp only [perm_Unrank.l0]
    have h1 := fact_20 (show i + 1 ≤ 20 by omega)
    have e : ((fact i : Nat) : Int) * ((i + 1 : Nat) : Int) = ((fact (i + 1) : Nat) : Int) := by
      rw [← Int.natCast_mul, Nat.mul_comm, ← fact_succ]
    rw [if_pos (by omega), wrap_nat (by omega), e, w64_small (by omega) (by omega)]
theorem perm_Unrank.ev (n : Nat) (hn : n ≤ 20) (k : Nat) (hk : k < fact n) : Ev (fun q => perm_Unrank.f q (n : Int) (k : Int)) (unr n (lf (fun i => i) n) k, 0) := by
  unfold perm_Unrank.f
  have hdeg : perm_checkDegree.f (n : Int) = some 0 := by
    unfold perm_checkDegree.f
    rw [if_neg (by omega), if_neg (by omega)]
  simp only [hdeg, Option.bind_some, if_true]
  rw [show (1 : Int) = ((fact 0 : Nat) : Int) by rw [fact_zero]; rfl]
  refine perm_Unrank.l0_ev n hn (k : Int) _ ?_ _ 0 rfl (Nat.zero_le _)
  have h1 : decide ((k : Int) ≥ ((fact n : Nat) : Int)) = false := decide_eq_false (by omega)
  simp only [if_neg (by omega : ¬ (k : Int) < 0), h1]
  refine Ev.step (f := fun q => (perm_identity.f q (n : Int)).bind fun t => perm_Unrank.l1 q (k : Int) ((fact n : Nat) : Int) t [] (n : Int)) (fun q => ?_) ?_
  · simp only [perm_Unrank.j1, Bool.false_eq_true, if_false, if_pos (show (0 : Int) ≤ (n : Int) by omega), Int.toNat_natCast, if_pos (show n ≤ 35184372088832 by omega)]
  · refine Ev.bind (perm_identity.ev n (by omega)) ?_
    exact perm_Unrank.l1_ev n hn _ [] k (lf_length _ _) hk (by simp; omega)
theorem perm_Unrank.ev_range (n : Nat) (hn : n ≤ 20) (k : Int) (hk : k < 0 ∨ ((fact n : Nat) : Int) ≤ k) : Ev (fun q => perm_Unrank.f q (n : Int) k) ([], 3) := by
  unfold perm_Unrank.f
  have hdeg : perm_checkDegree.f (n : Int) = some 0 := by
    unfold perm_checkDegree.f
    rw [if_neg (by omega), if_neg (by omega)]
  simp only [hdeg, Option.bind_some, if_true]
  rw [show (1 : Int) = ((fact 0 : Nat) : Int) by rw [fact_zero]; rfl]
  refine perm_Unrank.l0_ev n hn k _ ?_ _ 0 rfl (Nat.zero_le _)
  have fin : Ev (fun q => perm_Unrank.j1 q (n : Int) k ((fact n : Nat) : Int) true) (([] : List Int), (3 : Int)) := by
    refine Ev.step (f := fun _ => some (([] : List Int), (3 : Int))) (fun q => ?_) (Ev.now _)
    simp only [perm_Unrank.j1, if_true]
  by_cases h0 : k < 0
  · simp only [if_pos h0]
    exact fin
  · have h1 : decide (k ≥ ((fact n : Nat) : Int)) = true := decide_eq_true (by omega)
    simp only [if_neg h0, h1]
    exact fin
theorem perm_Unrank.ev_deg (n k : Int) (hn : degE n ≠ 0) : Ev (fun q => perm_Unrank.f q n k) ([], degE n) := by
  unfold perm_Unrank.f
  have hdeg : perm_checkDegree.f n = some (degE n) := by
    unfold perm_checkDegree.f degE
    split
    · rfl
    · split <;> rfl
  simp only [hdeg, Option.bind_some, if_neg hn]
  exact Ev.now _
end

/-! ### galoisref22_Factorial -/
theorem galoisref22_Factorial.l_ev (n : Nat) (hn : n ≤ 20) : ∀ (d i : Nat), n - i = d → i ≤ n →
    Ev (fun k => galoisref22_Factorial.l0 k (n : Int) ((fact i : Nat) : Int) ((i + 1 : Nat) : Int)) ((fact n : Nat) : Int) := by
  intro d
  induction d with
  | zero =>
    intro i hd hi
    have e : i = n := by omega
    subst e
    refine Ev.step (f := fun _ => some ((fact i : Nat) : Int)) (fun k => ?_) (Ev.now _)
    simp only [galoisref22_Factorial.l0]
    rw [if_neg (by omega)]
  | succ d ih =>
    intro i hd hi
    refine Ev.step (fun k => ?_) (ih (i + 1) (by omega) (by omega))
    simp only [galoisref22_Factorial.l0]
    have h1 := fact_20 (show i + 1 ≤ 20 by omega)
    have e : ((fact i : Nat) : Int) * ((i + 1 : Nat) : Int) = ((fact (i + 1) : Nat) : Int) := by
      rw [← Int.natCast_mul, Nat.mul_comm]; rfl
    rw [if_pos (by omega), e, w64_small (by omega) (by omega), wrap_nat (by omega)]
theorem galoisref22_Factorial.ev (n : Nat) (hn : n ≤ 20) : Ev (fun k => galoisref22_Factorial.f k (n : Int)) ((fact n : Nat) : Int) := by
  by_cases h : n = 0
  · subst h
    refine Ev.step (f := fun _ => some 1) (fun k => ?_) (Ev.now _)
    simp only [galoisref22_Factorial.f, galoisref22_Factorial.l0]
    rfl
  · exact galoisref22_Factorial.l_ev n hn _ 1 rfl (by omega)

/-! ### galoisref22_Unrank -/
section
attribute [local irreducible] fact
theorem galoisref22_Unrank.l1_ev (n k : Int) (p : List Int) (u : List Bool) (i : Nat) (J : Nat) (R : List Int) (hu : u.length ≤ 20) (hp : p.length ≤ 40) (hi : i ≤ 20)
    (next : Ev (fun q => galoisref22_Unrank.l0 q n k (p ++ [(J : Int)]) (u.set J true) ((i + 1 : Nat) : Int)) R) : ∀ (dd j : Nat), u.length - j = dd → j ≤ u.length → ∀ d : Nat, d ≤ 40 → (restF (u.drop j) j)[d]? = some J →
    Ev (fun q => galoisref22_Unrank.l1 q n k p u (i : Int) (d : Int) (j : Int)) R := by
  intro dd
  induction dd with
  | zero =>
    intro j hd hj d _ hJ
    rw [List.drop_eq_nil_of_le (by omega : u.length ≤ j)] at hJ
    simp [restF] at hJ
  | succ dd ih =>
    intro j hd hj d hd40 hJ
    have hlt : j < u.length := by omega
    have hr : rdOf false u (j : Int) = u[j] := by
      show u.getD j false = u[j]
      rw [List.getD_eq_getElem?_getD, List.getElem?_eq_getElem hlt]; rfl
    rw [List.drop_eq_getElem_cons hlt] at hJ
    by_cases hb : u[j] = true
    · rw [hb] at hJ
      simp only [restF, if_true] at hJ
      refine Ev.step (f := fun q => galoisref22_Unrank.j2 q n k p u (i : Int) (d : Int) (j : Int) true) (fun q => ?_) ?_
      · simp only [galoisref22_Unrank.l1]
        rw [if_pos (by omega), if_pos (by omega), hr, if_pos hb]
      · refine Ev.step (fun q => ?_) (ih (j + 1) (by omega) (by omega) d hd40 hJ)
        simp only [galoisref22_Unrank.j2, if_true]
        rw [if_pos (by omega), if_pos (by omega), hr, if_pos hb, wrap_nat (by omega)]
    · have hb' : u[j] = false := Bool.eq_false_iff.2 hb
      rw [hb'] at hJ
      simp only [restF, Bool.false_eq_true, if_false] at hJ
      cases d with
      | zero =>
        rw [List.getElem?_cons_zero] at hJ
        obtain rfl := Option.some.inj hJ
        refine Ev.step (f := fun q => galoisref22_Unrank.j2 q n k p u (i : Int) ((0 : Nat) : Int) (j : Int) false) (fun q => ?_) ?_
        · simp only [galoisref22_Unrank.l1]
          rw [if_pos (by omega), if_pos (by omega), hr, if_neg hb]
          rfl
        · refine Ev.step (fun q => ?_) next
          simp only [galoisref22_Unrank.j2, Bool.false_eq_true, if_false]
          rw [if_pos (by omega), if_pos (by omega), if_pos (by omega), wrap_nat (by omega), Int.toNat_natCast]
      | succ d =>
        rw [List.getElem?_cons_succ] at hJ
        refine Ev.step (f := fun q => galoisref22_Unrank.j2 q n k p u (i : Int) ((d + 1 : Nat) : Int) (j : Int) true) (fun q => ?_) ?_
        · simp only [galoisref22_Unrank.l1]
          rw [if_pos (by omega), if_pos (by omega), hr, if_neg hb, decide_eq_true (by omega : ((d + 1 : Nat) : Int) > 0)]
        · refine Ev.step (fun q => ?_) (ih (j + 1) (by omega) (by omega) d (by omega) hJ)
          simp only [galoisref22_Unrank.j2, if_true]
          rw [if_pos (by omega), if_pos (by omega), hr, if_neg hb, wrap_nat (by omega), show wrap64 (((d + 1 : Nat) : Int) - 1) = (d : Int) by rw [w64_small (by omega) (by omega)]; omega]
theorem galoisref22_Unrank.l0_ev (n : Nat) (hn : n ≤ 20) (m : Nat) : ∀ (i : Nat) (u : List Bool) (p : List Int) (k : Nat), n - i = m → i ≤ n → u.length = n → (restF u 0).length = m → k < fact m → p.length + m ≤ 40 →
    Ev (fun q => galoisref22_Unrank.l0 q (n : Int) (k : Int) p u (i : Int)) (p ++ unr m (ints (restF u 0)) k) := by
  induction m with
  | zero =>
    intro i u p k hm hi hu hr hk hp
    refine Ev.step (f := fun _ => some (p ++ unr 0 (ints (restF u 0)) k)) (fun q => ?_) (Ev.now _)
    simp only [galoisref22_Unrank.l0, unr, List.append_nil]
    rw [if_neg (by omega)]
  | succ m IH =>
    intro i u p k hm hi hu hr hk hp
    have hm20 : m ≤ 20 := by omega
    have hf := fact_20 hm20
    have hp0 := fact_pos m
    have hfz : ¬ ((fact m : Nat) : Int) = 0 := by omega
    have hd := div_fact hk
    have hmod := Nat.mod_lt k hp0
    have U : unr (m + 1) (ints (restF u 0)) k = (ints (restF u 0)).getD (k / fact m) 0 :: unr m ((ints (restF u 0)).take (k / fact m) ++ (ints (restF u 0)).drop (k / fact m + 1)) (k % fact m) := rfl
    have e2 : Int.tdiv (k : Int) ((fact m : Nat) : Int) = ((k / fact m : Nat) : Int) := (Int.ofNat_tdiv _ _).symm
    have e4 : Int.tmod (k : Int) ((fact m : Nat) : Int) = ((k % fact m : Nat) : Int) := (Int.ofNat_tmod _ _).symm
    generalize k / fact m = d at *
    generalize k % fact m = r at *
    have hd' : d < (restF u 0).length := by rw [hr]; exact hd
    have hd20 : d < 20 := by clear e2 e4 U hk hf hp0 hmod IH hfz; omega
    obtain ⟨h1, h2, h3⟩ := restF_pick u 0 d hd'
    rw [Nat.sub_zero] at h3
    have e0 : wrap64 (wrap64 ((n : Int) - 1) - (i : Int)) = (m : Int) := by
      clear e2 e4 U hk hf hp0 hmod IH hfz h1 h2 h3 hd' hd20 hr
      rw [w64_small (i := (n : Int) - 1) (by omega) (by omega), w64_small (by omega) (by omega)]; omega
    have e2' : wrap64 (d : Int) = (d : Int) := by
      clear e0 e2 e4 U hk hf hp0 hmod IH hfz h1 h2 h3 hd' hr
      exact w64_small (by omega) (by omega)
    have hlen : ((restF u 0).take d ++ (restF u 0).drop (d + 1)).length = m := by
      clear e0 e2 e2' e4 U hk hf hp0 hmod IH hfz h1 h2 h3
      rw [List.length_append, List.length_take, List.length_drop]; omega
    have hpl : (p ++ [(((restF u 0)[d] : Nat) : Int)]).length + m ≤ 40 := by
      rw [List.length_append, List.length_singleton]
      clear e0 e2 e2' e4 U hk hf hp0 hmod IH hfz h1 h2 h3 hlen
      omega
    have s1 : n - (i + 1) = m := by clear e0 e2 e2' e4 U hk hf hp0 hmod IH hfz h1 h2 h3 hlen hpl; omega
    have s2 : i + 1 ≤ n := by clear e0 e2 e2' e4 U hk hf hp0 hmod IH hfz h1 h2 h3 hlen hpl; omega
    have s3 : u.length ≤ 20 := by rw [hu]; exact hn
    have s4 : p.length ≤ 40 := Nat.le_trans (Nat.le_add_right _ _) hp
    have s5 : i ≤ 20 := Nat.le_trans hi hn
    have s6 : (i : Int) < (n : Int) := Int.ofNat_lt.2 s2
    have ih := IH (i + 1) (u.set (restF u 0)[d] true) (p ++ [(((restF u 0)[d] : Nat) : Int)]) r s1 s2 (by rw [List.length_set]; exact hu) (by rw [h3]; exact hlen) hmod hpl
    have hx : (ints (restF u 0)).getD d 0 = (((restF u 0)[d] : Nat) : Int) := by
      unfold ints
      rw [List.getD_eq_getElem?_getD, List.getElem?_map, List.getElem?_eq_getElem hd']; rfl
    have R : p ++ unr (m + 1) (ints (restF u 0)) k = p ++ [(((restF u 0)[d] : Nat) : Int)] ++ unr m (ints (restF (u.set (restF u 0)[d] true) 0)) r := by
      rw [U, hx, h3]
      simp only [ints, List.map_append, List.map_take, List.map_drop, List.append_assoc, List.singleton_append]
    rw [R]
    clear R U hx hlen hpl
    refine Ev.step (f := fun q => (galoisref22_Factorial.f q (m : Int)).bind fun t221 => (if t221 = 0 then (none) else (galoisref22_Unrank.l1 q (n : Int) (Int.tmod (k : Int) t221) p u (i : Int) (wrap64 (Int.tdiv (k : Int) t221)) 0))) (fun q => ?_) ?_
    · simp only [galoisref22_Unrank.l0]
      rw [if_pos s6, e0]
    · refine Ev.bind (galoisref22_Factorial.ev m hm20) ?_
      simp only [if_neg hfz, e2, e2', e4]
      exact galoisref22_Unrank.l1_ev (n : Int) _ p u i _ _ s3 s4 s5 ih _ 0 rfl (Nat.zero_le _) d (Nat.le_trans (Nat.le_of_lt hd20) (by decide)) (by rw [List.drop_zero, List.getElem?_eq_getElem hd'])
theorem galoisref22_Unrank.ev (n : Nat) (hn : n ≤ 20) (k : Nat) (hk : k < fact n) : Ev (fun q => galoisref22_Unrank.f q (n : Int) (k : Int)) (unr n (lf (fun i => i) n) k) := by
  have h := galoisref22_Unrank.l0_ev n hn n 0 (List.replicate n false) [] k (by omega) (Nat.zero_le _) (by simp) (by rw [restF_false]; simp) hk (by simp; omega)
  rw [restF_start, List.nil_append] at h
  refine Ev.congr (fun q => ?_) h
  unfold galoisref22_Unrank.f
  rw [if_pos (by omega), if_pos (by omega), Int.toNat_natCast]
  rfl
end

/-! ### api_Perm_int_81 -/
theorem api_Perm_int_81.l_ev (l : List Int) (x : Int) (hl : l.length < 4611686018427387904) : ∀ (d i : Nat), l.length - i = d → i ≤ l.length →
    Ev (fun k => api_Perm_int_81.l0 k l x (l.length : Int) (i : Int)) (if x ∈ l.drop i then ((i + (l.drop i).idxOf x : Nat) : Int) else -1) := by
  intro d
  induction d with
  | zero =>
    intro i hd hi
    have e : l.drop i = [] := List.drop_eq_nil_of_le (by omega)
    rw [e, if_neg (by simp)]
    refine Ev.step (f := fun _ => some (-1)) (fun k => ?_) (Ev.now _)
    simp only [api_Perm_int_81.l0]
    rw [if_neg (by omega)]
  | succ d ih =>
    intro i hd hi
    have hlt : i < l.length := by omega
    have e : l.drop i = l[i] :: l.drop (i + 1) := List.drop_eq_getElem_cons hlt
    by_cases hx : x = l[i]
    · rw [e, if_pos (by rw [hx]; exact List.mem_cons_self ..), ← hx, List.idxOf_cons_self]
      refine Ev.step (f := fun _ => some ((i : Nat) : Int)) (fun k => ?_) (Ev.now _)
      simp only [api_Perm_int_81.l0]
      rw [if_pos (by omega), if_pos (by omega), if_pos (by omega), if_pos (by rw [rd_get l i hlt]; exact hx)]
    · refine Ev.step (f := fun k => api_Perm_int_81.l0 k l x (l.length : Int) ((i + 1 : Nat) : Int)) (fun k => ?_) ?_
      · simp only [api_Perm_int_81.l0]
        rw [if_pos (by omega), if_pos (by omega), if_pos (by omega), if_neg (by rw [rd_get l i hlt]; exact hx), wrap_nat (by omega)]
      · have := ih (i + 1) (by omega) (by omega)
        rw [e]
        by_cases hm : x ∈ l.drop (i + 1)
        · rw [if_pos hm] at this
          have hne : (l[i] == x) = false := beq_eq_false_iff_ne.2 (fun h => hx h.symm)
          rw [if_pos (List.mem_cons_of_mem _ hm), List.idxOf_cons, hne, cond_false]
          rw [show i + ((l.drop (i + 1)).idxOf x + 1) = i + 1 + (l.drop (i + 1)).idxOf x by omega]
          exact this
        · rw [if_neg hm] at this
          rw [if_neg (by rw [List.mem_cons]; exact fun h => h.elim hx hm)]
          exact this
theorem api_Perm_int_81.ev (l : List Int) (x : Int) (hl : l.length < 4611686018427387904) : Ev (fun k => api_Perm_int_81.f k l x) (if x ∈ l then ((l.idxOf x : Nat) : Int) else -1) := by
  have := api_Perm_int_81.l_ev l x hl l.length 0 (by omega) (by omega)
  rw [List.drop_zero, Nat.zero_add] at this
  exact this

/-! ### api_Perm_int_72 -/
theorem api_Perm_int_72.ev (l : List Int) (x : Int) (hl : l.length < 4611686018427387904) : Ev (fun k => api_Perm_int_72.f k l x) (decide (x ∈ l)) := by
  unfold api_Perm_int_72.f
  refine Ev.bind (f := fun _ t => some (decide (t ≥ 0))) (api_Perm_int_81.ev l x hl) ?_
  by_cases h : x ∈ l
  · simp only [if_pos h]
    rw [show decide ((((l.idxOf x : Nat) : Int)) ≥ 0) = decide (x ∈ l) by simp [h]]
    exact Ev.now _
  · simp only [if_neg h]
    rw [show decide ((-1 : Int) ≥ 0) = decide (x ∈ l) by simp [h]]
    exact Ev.now _

/-! ### perm_Check -/
theorem perm_Check.l_ev (l : List Int) (hl : l.length ≤ 20) : ∀ (d i : Nat), l.length - i = d → i ≤ l.length →
    Ev (fun k => perm_Check.l0 k l l (l.length : Int) (i : Int)) (chkFrom l d) := by
  intro d
  induction d with
  | zero =>
    intro i hd hi
    refine Ev.step (f := fun _ => some 0) (fun k => ?_) (Ev.now _)
    simp only [perm_Check.l0]
    rw [if_neg (by omega)]
  | succ d ih =>
    intro i hd hi
    have hi' : l.length - (d + 1) = i := by omega
    simp only [chkFrom, hi']
    have hb : ∀ b : Bool, (b = true ↔ (l.getD i 0 < 0 ∨ (l.length : Int) ≤ l.getD i 0)) →
        Ev (fun k => perm_Check.j1 k l (i : Int) (rd l (i : Int)) l (l.length : Int) (i : Int) b) (if l.getD i 0 < 0 ∨ (l.length : Int) ≤ l.getD i 0 then 3 else if l.getD i 0 ∈ l.take i then 24 else chkFrom l d) := by
      intro b hb
      by_cases h : b = true
      · rw [if_pos (hb.1 h)]
        refine Ev.step (f := fun _ => some 3) (fun k => ?_) (Ev.now _)
        simp only [perm_Check.j1]
        rw [if_pos h]
      · rw [if_neg (fun hh => h (hb.2 hh))]
        refine Ev.step (f := fun k => (api_Perm_int_72.f k (l.take i) (rd l (i : Int))).bind fun t => if t = true then some 24 else perm_Check.l0 k l l (l.length : Int) ((i + 1 : Nat) : Int)) (fun k => ?_) ?_
        · simp only [perm_Check.j1]
          rw [if_neg h, if_pos (by omega), if_pos (by omega), wrap_nat (by omega)]
          rfl
        · refine Ev.bind (f := fun k t => if t = true then some 24 else perm_Check.l0 k l l (l.length : Int) ((i + 1 : Nat) : Int)) (api_Perm_int_72.ev _ _ (by rw [List.length_take]; omega)) ?_
          by_cases hm : l.getD i 0 ∈ l.take i
          · rw [if_pos hm]
            exact Ev.congr (f := fun _ => some 24) (fun k => if_pos (decide_eq_true hm)) (Ev.now _)
          · rw [if_neg hm]
            exact Ev.congr (f := fun k => perm_Check.l0 k l l (l.length : Int) ((i + 1 : Nat) : Int)) (fun k => if_neg (fun h => hm (of_decide_eq_true h))) (ih (i + 1) (by omega) (by omega))
    by_cases h0 : rd l (i : Int) < 0
    · refine Ev.step (f := fun k => perm_Check.j1 k l (i : Int) (rd l (i : Int)) l (l.length : Int) (i : Int) true) (fun k => ?_) (hb true ⟨fun _ => .inl h0, fun _ => rfl⟩)
      simp only [perm_Check.l0]
      rw [if_pos (by omega), if_pos (by omega), if_pos (by omega), if_pos h0]
    · refine Ev.step (f := fun k => perm_Check.j1 k l (i : Int) (rd l (i : Int)) l (l.length : Int) (i : Int) (decide (rd l (i : Int) ≥ (l.length : Int)))) (fun k => ?_) (hb _ ?_)
      · simp only [perm_Check.l0]
        rw [if_pos (by omega), if_pos (by omega), if_pos (by omega), if_neg h0]
      · rw [decide_eq_true_iff]
        exact ⟨fun h => .inr h, fun h => h.elim (fun hh => absurd hh h0) id⟩
theorem perm_Check.ev (l : List Int) : Ev (fun k => perm_Check.f k l) (chk l) := by
  unfold perm_Check.f chk
  by_cases h : 20 < l.length
  · rw [if_pos h]
    refine Ev.congr (f := fun _ => some 4) (fun k => ?_) (Ev.now _)
    rw [if_pos (by omega)]
  · rw [if_neg h]
    refine Ev.congr (f := fun k => perm_Check.l0 k l l (l.length : Int) 0) (fun k => ?_) (perm_Check.l_ev l (by omega) _ 0 (by omega) (by omega))
    rw [if_neg (by omega)]

/-! ### perm_Rank -/
theorem perm_Rank.l1_ev (l : List Int) (i : Nat) (hi : i < l.length) (hl : l.length ≤ 20) (R : Int × Int) (base : Nat) (hb : base + 20 < 4611686018427387904)
    (next : Ev (fun k => perm_Rank.l0 k l ((base + below l[i] (l.drop (i + 1)) : Nat) : Int) l (l.length : Int) ((i + 1 : Nat) : Int)) R) : ∀ (d j : Nat), (l.drop (i + 1)).length - j = d → j ≤ (l.drop (i + 1)).length →
    Ev (fun k => perm_Rank.l1 k l ((base + below l[i] ((l.drop (i + 1)).take j) : Nat) : Int) l[i] l (l.length : Int) (i : Int) (l.drop (i + 1)) ((l.drop (i + 1)).length : Int) (j : Int)) R := by
  have hdl : (l.drop (i + 1)).length ≤ 20 := by rw [List.length_drop]; omega
  intro d
  induction d with
  | zero =>
    intro j hd hj
    rw [List.take_of_length_le (by omega)]
    refine Ev.step (fun k => ?_) next
    simp only [perm_Rank.l1]
    rw [if_neg (by omega), wrap_nat (by omega)]
  | succ d ih =>
    intro j hd hj
    have hlt : j < (l.drop (i + 1)).length := by omega
    have nx := ih (j + 1) (by omega) (by omega)
    rw [List.take_succ_eq_append_getElem hlt, below_append, below_cons] at nx
    have hbl := below_le l[i] ((l.drop (i + 1)).take j)
    rw [List.length_take] at hbl
    by_cases h : (l.drop (i + 1))[j] < l[i]
    · rw [if_pos h] at nx
      refine Ev.step (fun k => ?_) nx
      simp only [perm_Rank.l1]
      rw [if_pos (by omega), if_pos (by omega), if_pos (by omega), rd_get _ j hlt, if_pos h, wrap_nat (by omega), wrap_nat (by omega)]
      simp [below, Nat.add_assoc]
    · rw [if_neg h] at nx
      refine Ev.step (fun k => ?_) nx
      simp only [perm_Rank.l1]
      rw [if_pos (by omega), if_pos (by omega), if_pos (by omega), rd_get _ j hlt, if_neg h, wrap_nat (by omega)]
      simp [below]
theorem perm_Rank.l0_ev (l : List Int) (hl : l.length ≤ 20) : ∀ (d i : Nat) (r : Nat), l.length - i = d → i ≤ l.length → r * fact (l.length - i) + rk (l.drop i) = rk l →
    Ev (fun k => perm_Rank.l0 k l (r : Int) l (l.length : Int) (i : Int)) ((rk l : Nat), 0) := by
  have hr := rk_lt l
  have hf := fact_20 hl
  intro d
  induction d with
  | zero =>
    intro i r hd hi he
    rw [List.drop_eq_nil_of_le (by omega), show l.length - i = 0 by omega] at he
    have e : r = rk l := by simpa [rk, fact] using he
    subst e
    refine Ev.step (f := fun _ => some (((rk l : Nat) : Int), 0)) (fun k => ?_) (Ev.now _)
    simp only [perm_Rank.l0]
    rw [if_neg (by omega)]
  | succ d ih =>
    intro i r hd hi he
    have hlt : i < l.length := by omega
    rw [List.drop_eq_getElem_cons hlt] at he
    simp only [rk] at he
    have hdl : (l.drop (i + 1)).length = l.length - (i + 1) := List.length_drop ..
    have en : l.length - i = (l.length - (i + 1)) + 1 := by omega
    have he' : (r * (l.length - i) + below l[i] (l.drop (i + 1))) * fact (l.length - (i + 1)) + rk (l.drop (i + 1)) = rk l := by
      rw [← he, hdl]
      conv => rhs; rw [en]
      simp only [fact]
      rw [Nat.add_mul, ← en, Nat.mul_assoc, Nat.add_assoc]
    have hb : r * (l.length - i) ≤ rk l := by
      have h1 : r * (l.length - i) + below l[i] (l.drop (i + 1)) ≤ (r * (l.length - i) + below l[i] (l.drop (i + 1))) * fact (l.length - (i + 1)) := Nat.le_mul_of_pos_right _ (fact_pos _)
      omega
    have hrl : r ≤ r * (l.length - i) := Nat.le_mul_of_pos_right _ (by omega)
    have nx := ih (i + 1) _ (by omega) (by omega) he'
    have := perm_Rank.l1_ev l i hlt hl _ (r * (l.length - i)) (by omega) nx _ 0 rfl (Nat.zero_le _)
    refine Ev.step (fun k => ?_) this
    simp only [perm_Rank.l0]
    have e1 : wrap64 ((l.length : Int) - (i : Int)) = ((l.length - i : Nat) : Int) := by rw [w64_small (by omega) (by omega)]; omega
    rw [if_pos (by omega), if_pos (by omega), if_pos (by omega), wrap_nat (by omega), if_pos (by omega), if_pos (by omega), rd_get l i hlt, e1, ← Int.natCast_mul, w64_small (by omega) (by omega), Int.toNat_natCast]
    simp [below]
theorem perm_Rank.ev (l : List Int) (h : chk l = 0) : Ev (fun k => perm_Rank.f k l) (((rk l : Nat) : Int), 0) := by
  unfold perm_Rank.f
  refine Ev.bind (perm_Check.ev _) ?_
  simp only [if_pos h]
  exact perm_Rank.l0_ev l (of_chk h).1 _ 0 0 rfl (Nat.zero_le _) (by simp)
theorem perm_Rank.ev_bad (l : List Int) (h : chk l ≠ 0) : Ev (fun k => perm_Rank.f k l) (0, chk l) := by
  unfold perm_Rank.f
  refine Ev.bind (perm_Check.ev _) ?_
  simp only [if_neg h]
  exact Ev.now _

/-! ### galoisref22_Same -/
theorem galoisref22_Same.l_ev (a b : List Int) (hl : a.length = b.length) (hn : a.length < 4611686018427387904) : ∀ (d i : Nat), a.length - i = d → i ≤ a.length →
    Ev (fun k => galoisref22_Same.l0 k a b (i : Int)) (decide (a.drop i = b.drop i)) := by
  intro d
  induction d with
  | zero =>
    intro i hd hi
    rw [List.drop_eq_nil_of_le (by omega : a.length ≤ i), List.drop_eq_nil_of_le (by omega : b.length ≤ i)]
    refine Ev.step (f := fun _ => some true) (fun k => ?_) (Ev.now _)
    simp only [galoisref22_Same.l0]
    rw [if_neg (by omega)]
  | succ d ih =>
    intro i hd hi
    have ha : i < a.length := by omega
    have hb : i < b.length := by omega
    rw [List.drop_eq_getElem_cons ha, List.drop_eq_getElem_cons hb]
    by_cases e : a[i] = b[i]
    · refine Ev.step (f := fun k => galoisref22_Same.l0 k a b ((i + 1 : Nat) : Int)) (fun k => ?_) ?_
      · simp only [galoisref22_Same.l0]
        rw [if_pos (by omega), if_pos (by omega), if_pos (by omega), rd_get a i ha, rd_get b i hb, if_pos e, wrap_nat (by omega)]
      · rw [show decide (a[i] :: a.drop (i + 1) = b[i] :: b.drop (i + 1)) = decide (a.drop (i + 1) = b.drop (i + 1)) by rw [e]; simp only [List.cons.injEq, true_and]]
        exact ih (i + 1) (by omega) (by omega)
    · refine Ev.step (f := fun _ => some false) (fun k => ?_) ?_
      · simp only [galoisref22_Same.l0]
        rw [if_pos (by omega), if_pos (by omega), if_pos (by omega), rd_get a i ha, rd_get b i hb, if_neg e]
      · rw [show decide (a[i] :: a.drop (i + 1) = b[i] :: b.drop (i + 1)) = false by simp only [List.cons.injEq, e, false_and, decide_false]]
        exact Ev.now _
theorem galoisref22_Same.ev (a b : List Int) (hn : a.length < 4611686018427387904) : Ev (fun k => galoisref22_Same.f k a b) (decide (a = b)) := by
  unfold galoisref22_Same.f
  by_cases hl : a.length = b.length
  · refine Ev.congr (f := fun k => galoisref22_Same.l0 k a b ((0 : Nat) : Int)) (fun k => ?_) ?_
    · rw [if_pos (by omega)]; rfl
    · have := galoisref22_Same.l_ev a b hl hn _ 0 rfl (by omega)
      rwa [List.drop_zero, List.drop_zero] at this
  · refine Ev.congr (f := fun _ => some false) (fun k => ?_) ?_
    · rw [if_neg (by omega)]
    · rw [show decide (a = b) = false by
        rw [decide_eq_false_iff_not]; exact fun e => hl (by rw [e])]
      exact Ev.now _

end Go.Proofs.YtoaalfpfklchfaaDoor.QPermRanks
