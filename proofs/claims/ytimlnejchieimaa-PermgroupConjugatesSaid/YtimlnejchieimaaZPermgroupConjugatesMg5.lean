/- Texts of this claim put together (wip/tools/merge.py). -/
import Derived.Test.YtimlnejchieimaaZPermgroupConjugatesPCjx1
import Derived.Test.YtimlnejchieimaaZPermgroupConjugatesPCjx2
import Derived.Test.YtimlnejchieimaaZPermgroupConjugatesPCjx3
import Derived.Test.YtimlnejchieimaaZPermgroupConjugatesPCjx4
import Derived.Test.YtimlnejchieimaaZPermgroupConjugatesPCjx5
import Derived.Test.YtimlnejchieimaaZPermgroupConjugatesMg0
import Derived.Test.YtimlnejchieimaaZPermgroupConjugatesMg4
import Derived.Test.YtimlnejchieimaaZPermgroupConjugatesPCjx6
section
/- What the printed functions come to: each in plain words (loops by induction). -/
namespace Go.Proofs.Ytimlnejchieimaa.QPermgroupConjugates
open Go.RowKit Go.Proofs.Ytimlnejchieimaa.PCj Go.Proofs.YtimlnejchieimaaW.PrintWords Go.Proofs.YtimlnejchieimaaW.PrintLast Go.Proofs.Ytimlnejchieimaa.Plain
set_option linter.unusedVariables false
set_option linter.unusedSimpArgs false
set_option maxRecDepth 100000 in
theorem galoislaw23_awake.ev : Ev (fun k => galoislaw23_awake.f k) true :=
  Ev.of (g := fun k => galoislaw23_awake.f k) (fun k => galoislaw23_awake.mono k) (k := 60) (by decide +kernel)
theorem galoisref22_Inverse.l_ev (g : Nat → Nat) (n : Nat) (h : Bij n g) (hn : n ≤ 20) : ∀ (d i : Nat), n - i = d → i ≤ n →
    Ev (fun k => galoisref22_Inverse.l0 k (lf g n) (invL g n i) (i : Int)) (lf (inv g n) n) := by
  intro d
  induction d with
  | zero =>
    intro i hd hi
    have e : i = n := by omega
    subst e
    refine Ev.step (f := fun _ => some (lf (inv g i) i)) (fun k => ?_) (Ev.now _)
    simp only [galoisref22_Inverse.l0]
    rw [if_neg (by rw [lf_length]; omega), invL_end h]
  | succ d ih =>
    intro i hd hi
    have hlt : i < n := by omega
    have hg := h.lt i hlt
    refine Ev.step (f := fun k => galoisref22_Inverse.l0 k (lf g n) (invL g n (i + 1)) ((i + 1 : Nat) : Int)) (fun k => ?_) (ih (i + 1) (by omega) (by omega))
    simp only [galoisref22_Inverse.l0]
    rw [if_pos (by rw [lf_length]; omega), if_pos (by omega), rd_nat, lf_getD g n i hlt, if_pos (by omega), if_pos (by unfold invL; rw [lf_length]; omega), wrap_nat (by omega), Int.toNat_natCast, invL_step h i hlt]
theorem galoisref22_Inverse.ev (g : Nat → Nat) (n : Nat) (h : Bij n g) (hn : n ≤ 20) : Ev (fun k => galoisref22_Inverse.f k (lf g n)) (lf (inv g n) n) := by
  refine Ev.congr (fun k => ?_) (galoisref22_Inverse.l_ev g n h hn _ 0 rfl (Nat.zero_le _))
  unfold galoisref22_Inverse.f
  rw [lf_length, if_pos (by omega), if_pos (by omega), Int.toNat_natCast, invL_zero]
  rfl
theorem galoisref22_Mul.l_ev (a b : List Int) (hl : a.length < 35184372088832) (hr : ∀ x ∈ a, 0 ≤ x ∧ x < (b.length : Int)) : ∀ (d i : Nat), a.length - i = d → i ≤ a.length →
    Ev (fun k => galoisref22_Mul.l0 k a b ((mulL a b).take i ++ (List.replicate a.length 0).drop i) (i : Int)) (mulL a b) := by
  have hm : (mulL a b).length = a.length := by simp [mulL]
  intro d
  induction d with
  | zero =>
    intro i hd hi
    have e : i = (mulL a b).length := by omega
    refine Ev.step (f := fun _ => some (mulL a b)) (fun k => ?_) (Ev.now _)
    simp only [galoisref22_Mul.l0]
    rw [if_neg (by omega), e, fill_end _ _ (by simp [hm])]
  | succ d ih =>
    intro i hd hi
    have hlt : i < a.length := by omega
    have hx := hr a[i] (List.getElem_mem hlt)
    refine Ev.step (f := fun k => galoisref22_Mul.l0 k a b ((mulL a b).take (i + 1) ++ (List.replicate a.length 0).drop (i + 1)) ((i + 1 : Nat) : Int)) (fun k => ?_) (ih (i + 1) (by omega) (by omega))
    simp only [galoisref22_Mul.l0]
    rw [if_pos (by omega), if_pos (by omega), rd_get a i hlt, if_pos hx.1, if_pos hx.2, if_pos (by rw [List.length_append, List.length_take, List.length_drop, List.length_replicate]; omega), wrap_nat (by omega)]
    rw [Int.toNat_natCast, set_fill (mulL a b) (List.replicate a.length 0) i (rd b a[i]) (by omega) (by simp [hm]) (by simp [mulL, List.getElem?_eq_getElem hlt])]
theorem galoisref22_Mul.ev (a b : List Int) (hl : a.length < 35184372088832) (hr : ∀ x ∈ a, 0 ≤ x ∧ x < (b.length : Int)) : Ev (fun k => galoisref22_Mul.f k a b) (mulL a b) := by
  refine Ev.congr (fun k => ?_) (galoisref22_Mul.l_ev a b hl hr _ 0 rfl (Nat.zero_le _))
  unfold galoisref22_Mul.f
  rw [if_pos (by omega), if_pos (by omega)]
  simp
theorem galoisref22_Mul.ev_lf (g h : Nat → Nat) (n : Nat) (hg : Bij n g) (hn : n ≤ 20) : Ev (fun k => galoisref22_Mul.f k (lf g n) (lf h n)) (lf (fun i => h (g i)) n) := by
  have := galoisref22_Mul.ev (lf g n) (lf h n) (by rw [lf_length]; omega) (fun x hx => by
    have := (lf_perm hg).1 x hx
    rw [lf_length] at this ⊢; exact this)
  rwa [mulL_lf g h n hg.lt] at this
theorem galoisref22_Conjugate.ev (g h : Nat → Nat) (n : Nat) (hg : Bij n g) (hh : Bij n h) (hn : n ≤ 20) : Ev (fun k => galoisref22_Conjugate.f k (lf g n) (lf h n)) (lf (fun i => h (g (inv h n i))) n) := by
  unfold galoisref22_Conjugate.f
  exact Ev.bind (galoisref22_Inverse.ev h n hh hn) (Ev.bind (galoisref22_Mul.ev_lf _ g n hh.inv hn) (Ev.bind (galoisref22_Mul.ev_lf _ h n (hh.inv.comp hg) hn) (Ev.now _)))
open Go.Proofs.Ytimlnejchieimaa.Pms in
theorem conj_lf {n : Nat} (p x : Pm n) : lf (fun i => p.ap (x.ap (inv p.ap n i))) n = (conj p x).l := by
  rw [(conj p x).l_eq]
  refine lf_congr fun i hi => ?_
  show _ = (p⁻¹ * x * p).ap i
  rw [Pm.mul_ap _ _ hi, Pm.mul_ap _ _ hi, Pm.inv_ap p hi]
open Go.Proofs.Ytimlnejchieimaa.Pms in
theorem galoisref22_Conjugate.evP {n : Nat} (hn : n ≤ 20) (x p : Pm n) : Ev (fun k => galoisref22_Conjugate.f k x.l p.l) (conj p x).l := by
  have h := galoisref22_Conjugate.ev x.ap p.ap n x.bij p.bij hn
  rw [← x.l_eq, ← p.l_eq, conj_lf] at h
  exact h
open Go.Proofs.Ytimlnejchieimaa.Pms in
theorem galoisref22_Inverse.evP {n : Nat} (hn : n ≤ 20) (p : Pm n) : Ev (fun k => galoisref22_Inverse.f k p.l) (p⁻¹).l := by
  have h := galoisref22_Inverse.ev p.ap n p.bij hn
  rw [← p.l_eq] at h
  exact h
theorem galoisref22_Check.l1_ev (l : List Int) (i : Nat) (hi : i < l.length) (hl : l.length ≤ 20) (r : Int)
    (hr : l.getD i 0 ∉ l.take i → Ev (fun k => galoisref22_Check.l0 k l ((i + 1 : Nat) : Int)) r) : ∀ (d j : Nat), i - j = d → j ≤ i → l.getD i 0 ∉ l.take j →
    Ev (fun k => galoisref22_Check.l1 k l (i : Int) (j : Int)) (if l.getD i 0 ∈ l.take i then 24 else r) := by
  intro d
  induction d with
  | zero =>
    intro j hd hj hno
    have e : j = i := by omega
    subst e
    rw [if_neg hno]
    refine Ev.step (f := fun k => galoisref22_Check.l0 k l ((j + 1 : Nat) : Int)) (fun k => ?_) (hr hno)
    simp only [galoisref22_Check.l1]
    rw [if_neg (by omega), wrap_nat (by omega)]
  | succ d ih =>
    intro j hd hj hno
    have hjl : j < l.length := by omega
    by_cases e : l.getD j 0 = l.getD i 0
    · rw [if_pos (by
        rw [← e, List.getD_eq_getElem?_getD, List.getElem?_eq_getElem hjl]
        exact List.mem_take_iff_getElem.2 ⟨j, by omega, rfl⟩)]
      refine Ev.step (f := fun _ => some 24) (fun k => ?_) (Ev.now _)
      simp only [galoisref22_Check.l1]
      rw [if_pos (by omega), if_pos (by omega), if_pos (by omega), if_pos (by omega), if_pos (by omega), if_pos (by simpa only [rd_nat] using e)]
    · refine Ev.step (f := fun k => galoisref22_Check.l1 k l (i : Int) ((j + 1 : Nat) : Int)) (fun k => ?_) (ih (j + 1) (by omega) (by omega) ?_)
      · simp only [galoisref22_Check.l1]
        rw [if_pos (by omega), if_pos (by omega), if_pos (by omega), if_pos (by omega), if_pos (by omega), if_neg (by simpa only [rd_nat] using e), wrap_nat (by omega)]
      · rw [List.take_succ_eq_append_getElem hjl, List.mem_append, List.mem_singleton]
        rintro (h | h)
        · exact hno h
        · apply e
          rw [h, List.getD_eq_getElem?_getD, List.getElem?_eq_getElem hjl]; rfl
theorem galoisref22_Check.l_ev (l : List Int) (hl : l.length ≤ 20) : ∀ (d i : Nat), l.length - i = d → i ≤ l.length →
    Ev (fun k => galoisref22_Check.l0 k l (i : Int)) (chkFrom l d) := by
  intro d
  induction d with
  | zero =>
    intro i hd hi
    refine Ev.step (f := fun _ => some 0) (fun k => ?_) (Ev.now _)
    simp only [galoisref22_Check.l0]
    rw [if_neg (by omega)]
  | succ d ih =>
    intro i hd hi
    have hi' : l.length - (d + 1) = i := by omega
    simp only [chkFrom, hi']
    have hb : ∀ b : Bool, (b = true ↔ (l.getD i 0 < 0 ∨ (l.length : Int) ≤ l.getD i 0)) →
        Ev (fun k => galoisref22_Check.j1 k l (i : Int) b) (if l.getD i 0 < 0 ∨ (l.length : Int) ≤ l.getD i 0 then 3 else if l.getD i 0 ∈ l.take i then 24 else chkFrom l d) := by
      intro b hb
      by_cases h : b = true
      · rw [if_pos (hb.1 h)]
        refine Ev.step (f := fun _ => some 3) (fun k => ?_) (Ev.now _)
        simp only [galoisref22_Check.j1]
        rw [if_pos h]
      · rw [if_neg (fun hh => h (hb.2 hh))]
        refine Ev.step (f := fun k => galoisref22_Check.l1 k l (i : Int) ((0 : Nat) : Int)) (fun k => ?_) (galoisref22_Check.l1_ev l i (by omega) hl _ (fun _ => ih (i + 1) (by omega) (by omega)) _ 0 rfl (by omega) (by simp))
        simp only [galoisref22_Check.j1]
        rw [if_neg h]
        rfl
    by_cases h0 : rd l (i : Int) < 0
    · refine Ev.step (f := fun k => galoisref22_Check.j1 k l (i : Int) true) (fun k => ?_) (hb true ⟨fun _ => .inl h0, fun _ => rfl⟩)
      simp only [galoisref22_Check.l0]
      rw [if_pos (by omega), if_pos (by omega), if_pos h0]
    · refine Ev.step (f := fun k => galoisref22_Check.j1 k l (i : Int) (decide (rd l (i : Int) ≥ (l.length : Int)))) (fun k => ?_) (hb _ ?_)
      · simp only [galoisref22_Check.l0]
        rw [if_pos (by omega), if_pos (by omega), if_neg h0]
      · rw [decide_eq_true_iff]
        exact ⟨fun h => .inr h, fun h => h.elim (fun hh => absurd hh h0) id⟩
theorem galoisref22_Check.ev (l : List Int) : Ev (fun k => galoisref22_Check.f k l) (chk l) := by
  unfold galoisref22_Check.f chk
  by_cases h : 20 < l.length
  · rw [if_pos h]
    refine Ev.congr (f := fun _ => some 4) (fun k => ?_) (Ev.now _)
    rw [if_pos (by omega)]
  · rw [if_neg h]
    refine Ev.congr (f := fun k => galoisref22_Check.l0 k l 0) (fun k => ?_) (galoisref22_Check.l_ev l (by omega) _ 0 (by omega) (by omega))
    rw [if_neg (by omega)]
theorem rdL_get (C : List (List Int)) (i : Nat) (h : i < C.length) : rd_L1 C (i : Int) = C[i] := by
  show C.getD i [] = _
  rw [List.getD_eq_getElem?_getD, List.getElem?_eq_getElem h]; rfl
theorem tmod_next (j n : Nat) (hj : j < 4611686018427387904) : Int.tmod (wrap64 ((j : Int) + 1)) (n : Int) = (((j + 1) % n : Nat) : Int) := by
  rw [wrap_nat hj, Int.ofNat_tmod]
theorem galoisref23_Check.l_ev (L : List (List Int)) (n : Int) (hL : L.length ≤ 32) : ∀ (d i : Nat), L.length - i = d → i ≤ L.length → Ev (fun k => galoisref23_Check.l0 k (i : Int) n L) (chkAll n (L.drop i))
  | 0, i, hd, hi => by
    rw [List.drop_eq_nil_of_le (by omega)]
    refine Ev.step (f := fun _ => some 0) (fun k => ?_) (Ev.now _)
    simp only [galoisref23_Check.l0]
    rw [if_neg (by omega)]
  | d + 1, i, hd, hi => by
    have hlt : i < L.length := by omega
    rw [List.drop_eq_getElem_cons hlt, chkAll]
    refine Ev.step (f := fun k => (galoisref22_Check.f k L[i]).bind fun t => if t = 0 then (if (L[i].length : Int) = n then galoisref23_Check.l0 k ((i + 1 : Nat) : Int) n L else some 2) else some t) (fun k => ?_) ?_
    · simp only [galoisref23_Check.l0]
      rw [if_pos (by omega), if_pos (by omega), rdL_get L i hlt, wrap_nat (by omega)]
    · refine Ev.bind (galoisref22_Check.ev _) ?_
      unfold chkE
      by_cases h : chk L[i] = 0
      · simp only [h, if_pos rfl]
        by_cases e : (L[i].length : Int) = n
        · simp only [if_pos e, if_pos rfl]; exact galoisref23_Check.l_ev L n hL d (i + 1) (by omega) (by omega)
        · simp only [if_neg e]; exact Ev.now _
      · simp only [if_neg h]; exact Ev.now _
theorem galoisref23_Check.ev (n : Int) (L : List (List Int)) : Ev (fun k => galoisref23_Check.f k n L) (chkG n L) := by
  unfold chkG
  by_cases h1 : n < 0
  · rw [if_pos h1]; refine Ev.congr (f := fun _ => some 3) (fun k => ?_) (Ev.now _); simp only [galoisref23_Check.f, galoisref22_Degree.f]; rw [if_pos h1]; rfl
  · rw [if_neg h1]
    by_cases h2 : 20 < n
    · rw [if_pos h2]; refine Ev.congr (f := fun _ => some 4) (fun k => ?_) (Ev.now _); simp only [galoisref23_Check.f, galoisref22_Degree.f]; rw [if_neg h1, if_pos h2]; rfl
    · rw [if_neg h2]
      by_cases h3 : 32 < L.length
      · rw [if_pos h3]; refine Ev.congr (f := fun _ => some 5) (fun k => ?_) (Ev.now _); simp only [galoisref23_Check.f, galoisref22_Degree.f]; rw [if_neg h1, if_neg h2]; show (if (0 : Int) = 0 then (if (L.length : Int) > 32 then some 5 else galoisref23_Check.l0 k 0 n L) else some 0) = _; rw [if_pos rfl, if_pos (by omega)]
      · rw [if_neg h3]; refine Ev.congr (f := fun k => galoisref23_Check.l0 k ((0 : Nat) : Int) n L) (fun k => ?_) (galoisref23_Check.l_ev L n (by omega) _ 0 rfl (by omega)); simp only [galoisref23_Check.f, galoisref22_Degree.f]; rw [if_neg h1, if_neg h2]; show (if (0 : Int) = 0 then (if (L.length : Int) > 32 then some 5 else galoisref23_Check.l0 k 0 n L) else some 0) = _; rw [if_pos rfl, if_neg (by omega)]; rfl
theorem galoisref23_With.ev (n : Int) (L : List (List Int)) (p : List Int) : Ev (fun k => galoisref23_With.f k n L p) (if chkG n L = 0 then chkE n p else chkG n L) := by
  refine Ev.congr (f := fun k => (galoisref23_Check.f k n L).bind fun t => if t = 0 then ((galoisref22_Check.f k p).bind fun t2 => if t2 = 0 then (if (p.length : Int) = n then some 0 else some 2) else some t2) else some t) (fun k => rfl) ?_
  refine Ev.bind (galoisref23_Check.ev n L) ?_
  by_cases h : chkG n L = 0
  · simp only [h, if_pos rfl]
    refine Ev.bind (galoisref22_Check.ev p) ?_
    unfold chkE
    by_cases h2 : chk p = 0
    · simp only [h2, if_pos rfl]
      by_cases e : (p.length : Int) = n
      · simp only [if_pos e]; exact Ev.now _
      · simp only [if_neg e]; exact Ev.now _
    · simp only [if_neg h2]; exact Ev.now _
  · simp only [if_neg h]; exact Ev.now _
theorem galoisref23_Few.l_ev (L : List (List Int)) (n : Int) (hL : L.length ≤ 40) : ∀ (d i : Nat), L.length - i = d → i ≤ L.length → ∃ b, Ev (fun k => galoisref23_Few.l0 k (i : Int) n L) b
  | 0, i, hd, hi => by
    refine ⟨true, Ev.step (f := fun _ => some true) (fun k => ?_) (Ev.now _)⟩
    simp only [galoisref23_Few.l0]
    rw [if_neg (by omega)]
  | d + 1, i, hd, hi => by
    have hlt : i < L.length := by omega
    obtain ⟨b, hb⟩ := galoisref23_Few.l_ev L n hL d (i + 1) (by omega) (by omega)
    by_cases e : (L[i].length : Int) > 40
    · refine ⟨false, Ev.step (f := fun _ => some false) (fun k => ?_) (Ev.now _)⟩
      simp only [galoisref23_Few.l0]
      rw [if_pos (by omega), if_pos (by omega), rdL_get L i hlt, if_pos e]
    · refine ⟨b, Ev.step (f := fun k => galoisref23_Few.l0 k ((i + 1 : Nat) : Int) n L) (fun k => ?_) hb⟩
      simp only [galoisref23_Few.l0]
      rw [if_pos (by omega), if_pos (by omega), rdL_get L i hlt, if_neg e, wrap_nat (by omega)]
theorem galoisref23_Few.ev (n : Int) (L : List (List Int)) : ∃ b, Ev (fun k => galoisref23_Few.f k n L) b := by
  by_cases h : (L.length : Int) > 40
  · exact ⟨false, Ev.congr (f := fun _ => some false) (fun k => by simp only [galoisref23_Few.f]; rw [if_pos h]) (Ev.now _)⟩
  · obtain ⟨b, hb⟩ := galoisref23_Few.l_ev L n (by omega) _ 0 rfl (by omega)
    exact ⟨b, Ev.congr (f := fun k => galoisref23_Few.l0 k ((0 : Nat) : Int) n L) (fun k => by simp only [galoisref23_Few.f]; rw [if_neg h]; rfl) hb⟩
open Go.Proofs.Ytimlnejchieimaa.Pms Go.Proofs.Ytimlnejchieimaa.Bs in
theorem bsgs_Mul.evP {n : Nat} (hn : n ≤ 20) (p q : Pm n) : Ev (fun k => bsgs_Mul.f k p.l q.l) (p * q).l := by
  obtain ⟨k, hk⟩ := mul_ev (Pm.mulO (by omega) p q)
  exact Ev.of (g := fun k => bsgs_Mul.f k p.l q.l) (fun k => bsgs_Mul.mono _ _ k) hk
open Go.Proofs.Ytimlnejchieimaa.Pms Go.Proofs.Ytimlnejchieimaa.Bs in
theorem bsgs_Inv.evP {n : Nat} (hn : n ≤ 20) (p : Pm n) : Ev (fun k => bsgs_Inv.f k p.l) (p⁻¹).l := by
  obtain ⟨k, hk⟩ := inv_ev (Pm.invO (by omega) p)
  exact Ev.of (g := fun k => bsgs_Inv.f k p.l) (fun k => bsgs_Inv.mono _ k) hk
open Go.Proofs.Ytimlnejchieimaa.Pms Go.Proofs.Ytimlnejchieimaa.Bs in
theorem permgroup_Conjugate.l_ev {n : Nat} (hn : n ≤ 20) (p : Pm n) (gens : List (Pm n)) (hL : gens.length ≤ 32) : ∀ (d i : Nat), gens.length - i = d → i ≤ gens.length → Ev (fun k => permgroup_Conjugate.l0 k p.l (gens.map Pm.l) ((gens.map Pm.l).length : Int) (i : Int) (n : Int) (((gens.take i).map (conj p)).map Pm.l)) ((n : Int), (gens.map (conj p)).map Pm.l, 0)
  | 0, i, hd, hi => by
    rw [List.take_of_length_le (by omega)]
    refine Ev.step (f := fun _ => some ((n : Int), (gens.map (conj p)).map Pm.l, 0)) (fun k => ?_) (Ev.now _)
    simp only [permgroup_Conjugate.l0]
    rw [if_neg (by rw [List.length_map]; omega)]
  | d + 1, i, hd, hi => by
    have hlt : i < gens.length := by omega
    refine Ev.step (f := fun k => (bsgs_Inv.f k p.l).bind fun t => (bsgs_Mul.f k t gens[i].l).bind fun t2 => (bsgs_Mul.f k t2 p.l).bind fun t3 => if (((gens.take i).map (conj p)).map Pm.l).length < 5864062014805 then permgroup_Conjugate.l0 k p.l (gens.map Pm.l) ((gens.map Pm.l).length : Int) ((i + 1 : Nat) : Int) (n : Int) ((((gens.take i).map (conj p)).map Pm.l) ++ [t3]) else none) (fun k => ?_) ?_
    · simp only [permgroup_Conjugate.l0]
      rw [if_pos (by rw [List.length_map]; omega), if_pos (by omega), if_pos (by rw [List.length_map]; omega), rdL_get _ i (by rw [List.length_map]; exact hlt), List.getElem_map, wrap_nat (by omega)]
    · refine Ev.bind (bsgs_Inv.evP hn p) (Ev.bind (bsgs_Mul.evP hn _ _) (Ev.bind (bsgs_Mul.evP hn _ _) ?_))
      have e : (((gens.take i).map (conj p)).map Pm.l) ++ [(p⁻¹ * gens[i] * p).l] = ((gens.take (i + 1)).map (conj p)).map Pm.l := by
        rw [List.take_succ_eq_append_getElem hlt, List.map_append, List.map_append]; rfl
      have hh : (((gens.take i).map (conj p)).map Pm.l).length < 5864062014805 := by rw [List.length_map, List.length_map, List.length_take]; omega
      simp only [e, if_pos hh]
      exact permgroup_Conjugate.l_ev hn p gens hL d (i + 1) (by omega) (by omega)
open Go.Proofs.Ytimlnejchieimaa.Pms Go.Proofs.Ytimlnejchieimaa.Bs in
theorem permgroup_Conjugate.ev {n : Nat} (hn : n ≤ 20) (p : Pm n) (gens : List (Pm n)) (hL : gens.length ≤ 32) : Ev (fun k => permgroup_Conjugate.f k (n : Int) (gens.map Pm.l) p.l) ((n : Int), (gens.map (conj p)).map Pm.l, 0) := by
  refine Ev.congr (f := fun k => (permgroup_with.f k (n : Int) (gens.map Pm.l) p.l).bind fun t => if t = 0 then permgroup_Conjugate.l0 k p.l (gens.map Pm.l) ((gens.map Pm.l).length : Int) 0 (n : Int) [] else some (0, [], t)) (fun k => rfl) ?_
  refine Ev.bind (QBs.permgroup_with.ev _ _ _) ?_
  simp only [if_pos (chkG_Pm hn gens hL), chkE_Pm hn p, if_true]
  exact permgroup_Conjugate.l_ev hn p gens hL _ 0 rfl (by omega)
open Go.Proofs.Ytimlnejchieimaa.Pms Go.Proofs.Ytimlnejchieimaa.Bs in
theorem permgroup_Conjugate.bad {n : Int} {L : List (List Int)} {p : List Int} {e : Int} (h : (if chkG n L = 0 then chkE n p else chkG n L) = e) (he : e ≠ 0) : Ev (fun k => permgroup_Conjugate.f k n L p) (0, [], e) := by
  refine Ev.congr (f := fun k => (permgroup_with.f k n L p).bind fun t => if t = 0 then permgroup_Conjugate.l0 k p L (L.length : Int) 0 n [] else some (0, [], t)) (fun k => rfl) ?_
  refine Ev.bind (QBs.permgroup_with.ev _ _ _) ?_
  simp only [h, if_neg he]
  exact Ev.now _
open Go.Proofs.Ytimlnejchieimaa.Pms Go.Proofs.Ytimlnejchieimaa.Bs in
open Classical in
theorem permgroup_Same.ev {n : Nat} (hn : n ≤ 20) (S T : List (Pm n)) (hS : S.length ≤ 32) (hT : T.length ≤ 32) : Ev (fun k => permgroup_Same.f k (n : Int) (S.map Pm.l) (n : Int) (T.map Pm.l)) (decide ((∀ g ∈ S, Gen T g) ∧ ∀ g ∈ T, Gen S g), 0) := by
  refine Ev.congr (f := fun k => (permgroup_two.f k (n : Int) (S.map Pm.l) (n : Int) (T.map Pm.l)).bind fun t => if t = 0 then ((PCj.permgroup_sub.f (n : Int) (S.map Pm.l) (n : Int) (T.map Pm.l)).bind fun t2 => if t2 = true then ((PCj.permgroup_sub.f (n : Int) (T.map Pm.l) (n : Int) (S.map Pm.l)).bind fun t3 => some (t3, 0)) else some (false, 0)) else some (false, t)) (fun k => rfl) ?_
  refine Ev.bind (QBs.permgroup_two.ev _ _ _ _) ?_
  rw [if_pos (chkG_Pm hn S hS), if_pos (chkG_Pm hn T hT), if_pos rfl]
  show Ev (fun k => (PCj.permgroup_sub.f (n : Int) (S.map Pm.l) (n : Int) (T.map Pm.l)).bind fun t2 => if t2 = true then ((PCj.permgroup_sub.f (n : Int) (T.map Pm.l) (n : Int) (S.map Pm.l)).bind fun t3 => some (t3, (0 : Int))) else some (false, 0)) _
  have e1 : PCj.permgroup_sub.f (n : Int) (S.map Pm.l) (n : Int) (T.map Pm.l) = _ := sub_spec hn S T (n : Int)
  have e2 : PCj.permgroup_sub.f (n : Int) (T.map Pm.l) (n : Int) (S.map Pm.l) = _ := sub_spec hn T S (n : Int)
  rw [e1, e2]
  by_cases h1 : ∀ g ∈ S, Gen T g
  · by_cases h2 : ∀ g ∈ T, Gen S g
    · rw [decide_eq_true h1, decide_eq_true h2, decide_eq_true ⟨h1, h2⟩]; exact Ev.now _
    · rw [decide_eq_true h1, decide_eq_false h2, decide_eq_false (fun h => h2 h.2)]; exact Ev.now _
  · have hf : ¬ ((∀ g ∈ S, Gen T g) ∧ ∀ g ∈ T, Gen S g) := fun h => h1 h.1
    rw [decide_eq_false h1, decide_eq_false hf]; exact Ev.now _
open Go.Proofs.Ytimlnejchieimaa.Pms Go.Proofs.Ytimlnejchieimaa.Bs in
theorem permgroup_Order.ev {n : Nat} (hn : n ≤ 20) (S : List (Pm n)) (hS : S.length ≤ 32) : ∃ E : List (Pm n), E.Pairwise Lt ∧ (∀ p, p ∈ E ↔ Gen S p) ∧ Ev (fun k => PCj.permgroup_Order.f k (n : Int) (S.map Pm.l)) ((E.length : Int), 0) := by
  obtain ⟨A, E, h1, h2, e1, e2, e3, e4⟩ := grp_spec hn S
  refine ⟨E, e1, e2, ?_⟩
  refine Ev.congr (f := fun k => (permgroup_Check.f k (n : Int) (S.map Pm.l)).bind fun e => if e = 0 then (if 0 ≤ (n : Int) ∧ (n : Int) ≤ 20 then (new_ (n : Int).toNat (S.map Pm.l)).bind fun C => some (belowF C 0, 0) else none) else some (0, e)) (fun k => rfl) ?_
  refine Ev.bind (QBs.permgroup_Check.ev _ _) ?_
  rw [chkG_Pm hn S hS, if_pos rfl, if_pos ⟨by omega, by omega⟩, Int.toNat_natCast, h1]
  show Ev (fun _ => some (belowF A.enc 0, (0 : Int))) _
  rw [e3]
  exact Ev.now _
open Go.Proofs.Ytimlnejchieimaa.Pms Go.Proofs.Ytimlnejchieimaa.Bs in
open Classical in
theorem permgroup_Contains.ev {n : Nat} (hn : n ≤ 20) (S : List (Pm n)) (hS : S.length ≤ 32) (p : Pm n) : Ev (fun k => PCj.permgroup_Contains.f k (n : Int) (S.map Pm.l) p.l) (decide (Gen S p), 0) := by
  obtain ⟨A, E, h1, h2, e1, e2, e3, e4⟩ := grp_spec hn S
  obtain ⟨b, hb, hb2⟩ := contains_spec hn h2 p
  refine Ev.congr (f := fun k => (permgroup_with.f k (n : Int) (S.map Pm.l) p.l).bind fun e => if e = 0 then (if 0 ≤ (n : Int) ∧ (n : Int) ≤ 20 then (new_ (n : Int).toNat (S.map Pm.l)).bind fun C => (C.contains p.l).bind fun b => some (b, 0) else none) else some (false, e)) (fun k => rfl) ?_
  refine Ev.bind (QBs.permgroup_with.ev _ _ _) ?_
  rw [if_pos (chkG_Pm hn S hS), chkE_Pm hn p, if_pos rfl, if_pos ⟨by omega, by omega⟩, Int.toNat_natCast, h1]
  show Ev (fun _ => (A.enc.contains p.l).bind fun b => some (b, (0 : Int))) _
  rw [hb]
  have : b = decide (Gen S p) := by
    by_cases e : Gen S p
    · rw [decide_eq_true e]; exact hb2.2 e
    · rw [decide_eq_false e]; cases b with | true => exact absurd (hb2.1 rfl) e | false => rfl
  rw [this]
  exact Ev.now _
theorem galoisref22_Same.l_ev (a b : List Int) (hl : a.length = b.length) (hn : a.length < 4611686018427387904) : ∀ (d i : Nat), a.length - i = d → i ≤ a.length →
    Ev (fun k => galoisref22_Same.l0 k a b (i : Int)) (decide (a.drop i = b.drop i)) := by
  intro d
  induction d with
  | zero =>
    intro i hd hi
    rw [List.drop_eq_nil_of_le (by omega : a.length ≤ i), List.drop_eq_nil_of_le (by omega : b.length ≤ i)]
    refine Ev.step (f := fun _ => some true) (fun k => ?_) (Ev.now _)
    simp only [galoisref22_Same.l0]
    rw [if_neg (by omega)]
  | succ d ih =>
    intro i hd hi
    have ha : i < a.length := by omega
    have hb : i < b.length := by omega
    rw [List.drop_eq_getElem_cons ha, List.drop_eq_getElem_cons hb]
    by_cases e : a[i] = b[i]
    · refine Ev.step (f := fun k => galoisref22_Same.l0 k a b ((i + 1 : Nat) : Int)) (fun k => ?_) ?_
      · simp only [galoisref22_Same.l0]
        rw [if_pos (by omega), if_pos (by omega), if_pos (by omega), rd_get a i ha, rd_get b i hb, if_pos e, wrap_nat (by omega)]
      · rw [show decide (a[i] :: a.drop (i + 1) = b[i] :: b.drop (i + 1)) = decide (a.drop (i + 1) = b.drop (i + 1)) by rw [e]; simp only [List.cons.injEq, true_and]]
        exact ih (i + 1) (by omega) (by omega)
    · refine Ev.step (f := fun _ => some false) (fun k => ?_) ?_
      · simp only [galoisref22_Same.l0]
        rw [if_pos (by omega), if_pos (by omega), if_pos (by omega), rd_get a i ha, rd_get b i hb, if_neg e]
      · rw [show decide (a[i] :: a.drop (i + 1) = b[i] :: b.drop (i + 1)) = false by simp only [List.cons.injEq, e, false_and, decide_false]]
        exact Ev.now _
theorem galoisref22_Same.ev (a b : List Int) (hn : a.length < 4611686018427387904) : Ev (fun k => galoisref22_Same.f k a b) (decide (a = b)) := by
  unfold galoisref22_Same.f
  by_cases hl : a.length = b.length
  · refine Ev.congr (f := fun k => galoisref22_Same.l0 k a b ((0 : Nat) : Int)) (fun k => ?_) ?_
    · rw [if_pos (by omega)]; rfl
    · have := galoisref22_Same.l_ev a b hl hn _ 0 rfl (by omega)
      rwa [List.drop_zero, List.drop_zero] at this
  · refine Ev.congr (f := fun _ => some false) (fun k => ?_) ?_
    · rw [if_neg (by omega)]
    · rw [show decide (a = b) = false by
        rw [decide_eq_false_iff_not]; exact fun e => hl (by rw [e])]
      exact Ev.now _
end Go.Proofs.Ytimlnejchieimaa.QPermgroupConjugates
end
section
/- PermgroupConjugates: a conjugate group has the conjugate generators, the same order, and the conjugate of an element as an element; conjugated by the inverse it is the group again. -/
namespace Go.Proofs.Ytimlnejchieimaa.Pure
open Go.RowKit Go.Proofs.Ytimlnejchieimaa.PCj Go.Proofs.YtimlnejchieimaaW.PrintWords Go.Proofs.YtimlnejchieimaaW.PrintLast Go.Proofs.Ytimlnejchieimaa.Plain Go.Proofs.Ytimlnejchieimaa.QPermgroupConjugates
set_option linter.unusedVariables false
set_option linter.unusedSimpArgs false
open Go.Proofs.Ytimlnejchieimaa.Pms
open Classical in
theorem cj_j4 {n : Nat} (hn : n ≤ 20) (p : Pm n) (gens : List (Pm n)) (hL : gens.length ≤ 32) (l2 : List Int) (b : Bool) (hb : b = false → ∃ q : Pm n, q.l = l2) : Ev (fun k => galoislaw23_PermgroupConjugates.j4 k p.l l2 b (n : Int) (gens.map Pm.l) (n : Int) ((gens.map (conj p)).map Pm.l)) true := by
  cases b with
  | true => exact Ev.step (f := fun _ => some true) (fun k => by simp only [galoislaw23_PermgroupConjugates.j4, if_true]) (Ev.now _)
  | false =>
    obtain ⟨q, rfl⟩ := hb rfl
    refine Ev.step (f := fun k => (permgroup_Contains.f k (n : Int) (gens.map Pm.l) q.l).bind fun b1 => (galoisref22_Conjugate.f k q.l p.l).bind fun t => (permgroup_Contains.f k (n : Int) ((gens.map (conj p)).map Pm.l) t).bind fun b2 => if b1.2 = 0 then (if b2.2 = 0 then some (b1.1 == b2.1) else some false) else some false) (fun k => by simp only [galoislaw23_PermgroupConjugates.j4, Bool.false_eq_true, if_false]) ?_
    refine Ev.bind (permgroup_Contains.ev hn gens hL q) (Ev.bind (galoisref22_Conjugate.evP hn q p) (Ev.bind (permgroup_Contains.ev hn (gens.map (conj p)) (by rw [List.length_map]; exact hL) (conj p q)) ?_))
    simp only [if_true]
    have e : decide (Gen (gens.map (conj p)) (conj p q)) = decide (Gen gens q) := decide_eq_decide.2 (gen_conj_iff p q)
    rw [e, beq_self_eq_true]
    exact Ev.now _
theorem cj_j3 {n : Nat} (hn : n ≤ 20) (p : Pm n) (gens : List (Pm n)) (hL : gens.length ≤ 32) (l2 : List Int) : Ev (fun k => galoislaw23_PermgroupConjugates.j3 k p.l l2 false (n : Int) (gens.map Pm.l) (n : Int) ((gens.map (conj p)).map Pm.l)) true := by
  refine Ev.step (f := fun k => (galoisref22_Check.f k l2).bind fun t => if t = 0 then galoislaw23_PermgroupConjugates.j4 k p.l l2 ((l2.length : Int) != (n : Int)) (n : Int) (gens.map Pm.l) (n : Int) ((gens.map (conj p)).map Pm.l) else galoislaw23_PermgroupConjugates.j4 k p.l l2 true (n : Int) (gens.map Pm.l) (n : Int) ((gens.map (conj p)).map Pm.l)) (fun k => by simp only [galoislaw23_PermgroupConjugates.j3, Bool.false_eq_true, if_false]) ?_
  refine Ev.bind (galoisref22_Check.ev l2) ?_
  by_cases h : chk l2 = 0
  · simp only [if_pos h]
    refine cj_j4 hn p gens hL l2 _ (fun hb => ?_)
    have e : (l2.length : Int) = (n : Int) := by simpa using hb
    obtain ⟨_, hp⟩ := (chk_zero l2).1 h
    exact ⟨⟨l2, by omega, hp⟩, rfl⟩
  · simp only [if_neg h]
    exact cj_j4 hn p gens hL l2 true (fun hb => by cases hb)
open Classical in
theorem cj_l0 {n : Nat} (hn : n ≤ 20) (p : Pm n) (gens : List (Pm n)) (hL : gens.length ≤ 32) (l2 : List Int) : ∀ (d i : Nat), gens.length - i = d → i ≤ gens.length → Ev (fun k => galoislaw23_PermgroupConjugates.l0 k p.l l2 (i : Int) (n : Int) (gens.map Pm.l) (n : Int) ((gens.map (conj p)).map Pm.l)) true
  | 0, i, hd, hi => by
    obtain ⟨E, e1, e2, e3⟩ := permgroup_Order.ev hn gens hL
    have hL' : (gens.map (conj p)).length ≤ 32 := by rw [List.length_map]; exact hL
    obtain ⟨F, f1, f2, f3⟩ := permgroup_Order.ev hn (gens.map (conj p)) hL'
    have hlen := conj_len p e1 f1 e2 f2
    have hback := permgroup_Conjugate.ev hn p⁻¹ (gens.map (conj p)) hL'
    rw [map_conj_back] at hback
    have hsame := permgroup_Same.ev hn gens gens hL hL
    rw [decide_eq_true (show (∀ g ∈ gens, Gen gens g) ∧ ∀ g ∈ gens, Gen gens g from ⟨fun g hg => Gen.of hg, fun g hg => Gen.of hg⟩)] at hsame
    refine Ev.step (f := fun k => (permgroup_Order.f k (n : Int) (gens.map Pm.l)).bind fun bt377 => (permgroup_Order.f k (n : Int) ((gens.map (conj p)).map Pm.l)).bind fun bt379 => (galoisref22_Inverse.f k p.l).bind fun t381 => (permgroup_Conjugate.f k (n : Int) ((gens.map (conj p)).map Pm.l) t381).bind fun bt384 => (permgroup_Same.f k bt384.1 bt384.2.1 (n : Int) (gens.map Pm.l)).bind fun bt390 => if bt377.2 = 0 then (if bt379.2 = 0 then (if bt377.1 = bt379.1 then (if bt384.2.2 = 0 then (if bt390.2 = 0 then (galoislaw23_PermgroupConjugates.j3 k p.l l2 (!bt390.1) (n : Int) (gens.map Pm.l) (n : Int) ((gens.map (conj p)).map Pm.l)) else (galoislaw23_PermgroupConjugates.j3 k p.l l2 true (n : Int) (gens.map Pm.l) (n : Int) ((gens.map (conj p)).map Pm.l))) else (galoislaw23_PermgroupConjugates.j3 k p.l l2 true (n : Int) (gens.map Pm.l) (n : Int) ((gens.map (conj p)).map Pm.l))) else (galoislaw23_PermgroupConjugates.j3 k p.l l2 true (n : Int) (gens.map Pm.l) (n : Int) ((gens.map (conj p)).map Pm.l))) else (galoislaw23_PermgroupConjugates.j3 k p.l l2 true (n : Int) (gens.map Pm.l) (n : Int) ((gens.map (conj p)).map Pm.l))) else (galoislaw23_PermgroupConjugates.j3 k p.l l2 true (n : Int) (gens.map Pm.l) (n : Int) ((gens.map (conj p)).map Pm.l))) (fun k => ?_) ?_
    · simp only [galoislaw23_PermgroupConjugates.l0]
      rw [if_neg (by simp only [List.length_map]; omega)]
    · refine Ev.bind e3 (Ev.bind f3 (Ev.bind (galoisref22_Inverse.evP hn p) (Ev.bind hback (Ev.bind hsame ?_))))
      simp only [if_true, hlen, Bool.not_true]
      exact cj_j3 hn p gens hL l2
  | d + 1, i, hd, hi => by
    have hlt : i < gens.length := by omega
    refine Ev.step (f := fun k => (galoisref22_Conjugate.f k gens[i].l p.l).bind fun t => (galoisref22_Same.f k (conj p gens[i]).l t).bind fun t2 => if t2 = true then galoislaw23_PermgroupConjugates.l0 k p.l l2 ((i + 1 : Nat) : Int) (n : Int) (gens.map Pm.l) (n : Int) ((gens.map (conj p)).map Pm.l) else some false) (fun k => ?_) ?_
    · simp only [galoislaw23_PermgroupConjugates.l0]
      rw [if_pos (by simp only [List.length_map]; omega), if_pos (by omega), if_pos (by simp only [List.length_map]; omega), rdL_get _ i (by rw [List.length_map]; exact hlt), rdL_get _ i (by rw [List.length_map, List.length_map]; exact hlt), List.getElem_map, List.getElem_map, List.getElem_map, wrap_nat (by omega)]
    · refine Ev.bind (galoisref22_Conjugate.evP hn _ p) (Ev.bind (galoisref22_Same.ev _ _ (by rw [(conj p gens[i]).len]; omega)) ?_)
      simp only [decide_true, if_true]
      exact cj_l0 hn p gens hL l2 d (i + 1) (by omega) (by omega)
theorem cj_j0 (a : Int) (L : List (List Int)) (l1 l2 : List Int) (b : Bool) : Ev (fun k => galoislaw23_PermgroupConjugates.j0 k l1 l2 b a L) true := by
  cases b with
  | true =>
    refine Ev.step (f := fun k => (galoislaw23_awake.f k).bind fun t => some t) (fun k => by simp only [galoislaw23_PermgroupConjugates.j0, if_true]) ?_
    exact Ev.bind galoislaw23_awake.ev (Ev.now _)
  | false =>
    refine Ev.step (f := fun k => ((permgroup_Conjugate.f k a L l1).bind fun bt363 => ((galoisref23_With.f k a L l1).bind fun t369 => (if t369 = 0 then (if bt363.2.2 = 0 then (if bt363.1 = a then (galoislaw23_PermgroupConjugates.j1 k l1 l2 ((bt363.2.1.length : Int) != (L.length : Int)) a L bt363.1 bt363.2.1) else (galoislaw23_PermgroupConjugates.j1 k l1 l2 true a L bt363.1 bt363.2.1)) else (galoislaw23_PermgroupConjugates.j1 k l1 l2 true a L bt363.1 bt363.2.1)) else ((galoislaw23_none.f bt363.1 bt363.2.1).bind fun t370 => (if t370 = true then (some (bt363.2.2 == t369)) else (some false))))))) (fun k => by simp only [galoislaw23_PermgroupConjugates.j0, Bool.false_eq_true, if_false]) ?_
    obtain ⟨e, he⟩ : ∃ e, (if chkG a L = 0 then chkE a l1 else chkG a L) = e := ⟨_, rfl⟩
    have hw := galoisref23_With.ev a L l1
    rw [he] at hw
    by_cases e0 : e = 0
    · subst e0
      have hG : chkG a L = 0 := by
        by_cases h : chkG a L = 0
        · exact h
        · rw [if_neg h] at he; exact absurd he h
      rw [if_pos hG] at he
      obtain ⟨n, gens, rfl, hn, rfl, hL⟩ := chkG_to hG
      obtain ⟨p, rfl⟩ := chkE_to he
      rw [List.length_map] at hL
      refine Ev.bind (permgroup_Conjugate.ev hn p gens hL) (Ev.bind hw ?_)
      simp only [if_true, List.length_map, bne_self_eq_false]
      refine Ev.step (f := fun k => galoislaw23_PermgroupConjugates.l0 k p.l l2 ((0 : Nat) : Int) (n : Int) (gens.map Pm.l) (n : Int) ((gens.map (conj p)).map Pm.l)) (fun k => by simp only [galoislaw23_PermgroupConjugates.j1, Bool.false_eq_true, if_false]; rfl) ?_
      exact cj_l0 hn p gens hL l2 _ 0 rfl (Nat.zero_le _)
    · refine Ev.bind (permgroup_Conjugate.bad he e0) (Ev.bind hw ?_)
      simp only [if_neg e0, galoislaw23_none.f, if_true, beq_self_eq_true]
      exact Ev.now _
theorem PermgroupConjugates : galoislaw23_PermgroupConjugates.Pure := by
  intro a L l1 l2 _ _ _ _ _ _ _
  apply Ev.rounds
  have J := cj_j0 a L l1 l2
  unfold galoislaw23_PermgroupConjugates.f
  refine Ev.bind galoislaw23_awake.ev ?_
  simp only [if_true]
  obtain ⟨fb, hf⟩ := galoisref23_Few.ev a L
  refine Ev.bind hf ?_
  have hc := galoisref23_Check.ev a L
  cases fb with
  | false => simp only [Bool.false_eq_true, if_false]; exact J true
  | true =>
    simp only [if_true]
    by_cases h1 : (l1.length : Int) > 40
    · simp only [if_pos h1]; exact J true
    · simp only [if_neg h1]
      by_cases h2 : (l2.length : Int) > 40
      · simp only [if_pos h2]; exact J true
      · simp only [if_neg h2]
        by_cases h3 : a > 12
        · simp only [if_pos h3]
          refine Ev.bind hc ?_
          by_cases h4 : chkG a L = 0
          · simp only [if_pos h4]; exact J true
          · simp only [if_neg h4]
            by_cases h5 : (L.length : Int) > 6
            · simp only [if_pos h5]; exact Ev.bind hc (J _)
            · simp only [if_neg h5]; exact J false
        · simp only [if_neg h3]
          by_cases h5 : (L.length : Int) > 6
          · simp only [if_pos h5]; exact Ev.bind hc (J _)
          · simp only [if_neg h5]; exact J false
end Go.Proofs.Ytimlnejchieimaa.Pure
end
