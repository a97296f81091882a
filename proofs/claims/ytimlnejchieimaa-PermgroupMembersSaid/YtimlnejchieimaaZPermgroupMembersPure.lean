/- PermgroupMembers: membership, the index of a permutation, and the element with an index are those of the reference, or have its errors. -/
import Derived.Test.YtimlnejchieimaaZPermgroupMembersPMbx1
import Derived.Test.YtimlnejchieimaaZPermgroupMembersPMbx2
import Derived.Test.YtimlnejchieimaaZPermgroupMembersMg0
import Derived.Test.YtimlnejchieimaaZPermgroupMembersMg4
import Derived.Test.YtimlnejchieimaaZPermgroupMembersMg5
namespace Go.Proofs.Ytimlnejchieimaa.Pure
open Go.RowKit Go.Proofs.Ytimlnejchieimaa.PMb Go.Proofs.YtimlnejchieimaaW.PrintWords Go.Proofs.YtimlnejchieimaaW.PrintLast Go.Proofs.Ytimlnejchieimaa.Plain
set_option linter.unusedVariables false
set_option linter.unusedSimpArgs false
open Go.Proofs.Ytimlnejchieimaa.Pms Go.Proofs.Ytimlnejchieimaa.QPg Go.Proofs.Ytimlnejchieimaa.QCl Go.Proofs.Ytimlnejchieimaa.QGr
open Go.Proofs.Ytimlnejchieimaa.Bs (Lt)
theorem mb_j2_good {n : Nat} (hn : n ≤ 20) {S E : List (Pm n)} (hS : S.length ≤ 32) (hE : E.Pairwise Lt) (hG : ∀ p, p ∈ E ↔ Gen S p) (hl : E.length ≤ 240) (p : Pm n) (b : Bool) (hb : b = decide (p ∈ E)) (r : Int × Int) (hr : r = if p ∈ E then (((E.idxOf p : Nat) : Int), 0) else (0, 28)) :
    Ev (fun k => galoislaw23_PermgroupMembers.j2 k p.l b 0 r.1 r.2 (E.map Pm.l) (n : Int) (S.map Pm.l)) true := by
  subst hb
  subst hr
  refine Ev.step (f := fun k => (galoisref23_With.f k (n : Int) (S.map Pm.l) p.l).bind fun t => if t = 0 then ((galoisref23_Has.f k (E.map Pm.l) p.l).bind fun t2 => if t2 = true then (if decide (p ∈ E) = true then (if (0 : Int) = 0 then ((galoisref23_Place.f k (E.map Pm.l) p.l).bind fun t3 => if (if p ∈ E then (((E.idxOf p : Nat) : Int), (0 : Int)) else (0, 28)).1 = t3 then some ((if p ∈ E then (((E.idxOf p : Nat) : Int), (0 : Int)) else (0, 28)).2 == 0) else some false) else some false) else some false) else (if decide (p ∈ E) = true then some false else (if (0 : Int) = 0 then (if (if p ∈ E then (((E.idxOf p : Nat) : Int), (0 : Int)) else (0, 28)).1 = 0 then some ((if p ∈ E then (((E.idxOf p : Nat) : Int), (0 : Int)) else (0, 28)).2 == 28) else some false) else some false))) else (if decide (p ∈ E) = true then some false else (if 0 = t then (if (if p ∈ E then (((E.idxOf p : Nat) : Int), (0 : Int)) else (0, 28)).1 = 0 then some ((if p ∈ E then (((E.idxOf p : Nat) : Int), (0 : Int)) else (0, 28)).2 == t) else some false) else some false))) (fun k => rfl) ?_
  refine Ev.bind (QRf.galoisref23_With.ev _ _ _) ?_
  simp only [if_pos (chkG_Pm hn S hS), chkE_Pm hn p, if_true]
  refine Ev.bind (hasP hn hE (by omega) p) ?_
  by_cases hp : p ∈ E
  · simp only [decide_eq_true hp, if_true, if_pos hp]
    refine Ev.bind (placeP hn hE (by omega) p) ?_
    simp only [place_idx hE hp, if_true, beq_self_eq_true]
    exact Ev.now _
  · simp only [decide_eq_false hp, if_neg hp, if_true, Bool.false_eq_true, if_false, beq_self_eq_true]
    exact Ev.now _
theorem mb_j2_bad {n : Nat} (hn : n ≤ 20) {S E : List (Pm n)} (hS : S.length ≤ 32) (l1 : List Int) (e : Int) (he : chkE (n : Int) l1 = e) (h0 : e ≠ 0) :
    Ev (fun k => galoislaw23_PermgroupMembers.j2 k l1 false e 0 e (E.map Pm.l) (n : Int) (S.map Pm.l)) true := by
  refine Ev.step (f := fun k => (galoisref23_With.f k (n : Int) (S.map Pm.l) l1).bind fun t => if t = 0 then ((galoisref23_Has.f k (E.map Pm.l) l1).bind fun t2 => if t2 = true then (if false = true then (if e = 0 then ((galoisref23_Place.f k (E.map Pm.l) l1).bind fun t3 => if (0 : Int) = t3 then some (e == 0) else some false) else some false) else some false) else (if false = true then some false else (if e = 0 then (if (0 : Int) = 0 then some (e == 28) else some false) else some false))) else (if false = true then some false else (if e = t then (if (0 : Int) = 0 then some (e == t) else some false) else some false))) (fun k => rfl) ?_
  refine Ev.bind (QRf.galoisref23_With.ev _ _ _) ?_
  simp only [if_pos (chkG_Pm hn S hS), he, if_neg h0, Bool.false_eq_true, if_false, if_true, beq_self_eq_true]
  exact Ev.now _
theorem mb_j1 {n : Nat} (hn : n ≤ 20) {S E : List (Pm n)} (l1 : List Int) (b : Bool) (x8 x9 x10 i : Int) (hj : Ev (fun k => galoislaw23_PermgroupMembers.j2 k l1 b x8 x9 x10 (E.map Pm.l) (n : Int) (S.map Pm.l)) true) (r : List Int × Int) (hr : r = elR E i) (fl : Bool) (hf : fl = true ↔ i < 0 ∨ (E.length : Int) ≤ i) :
    Ev (fun k => galoislaw23_PermgroupMembers.j1 k l1 i b x8 x9 x10 r.1 r.2 (E.map Pm.l) fl (n : Int) (S.map Pm.l)) true := by
  by_cases h : fl = true
  · have er : r = ([], 3) := by
      rw [hr, elR]
      rcases hf.1 h with h1 | h1
      · rw [if_pos h1]
      · rw [if_neg (by omega), List.getElem?_eq_none (by omega)]
    subst er
    subst h
    refine Ev.step (f := fun k => galoislaw23_PermgroupMembers.j2 k l1 b x8 x9 x10 (E.map Pm.l) (n : Int) (S.map Pm.l)) (fun k => ?_) hj
    simp only [galoislaw23_PermgroupMembers.j1, if_true, List.length_nil]
    rfl
  · have hi : ¬ (i < 0 ∨ (E.length : Int) ≤ i) := fun hh => h (hf.2 hh)
    obtain ⟨j, rfl⟩ : ∃ j : Nat, i = (j : Int) := ⟨i.toNat, by omega⟩
    have hjl : j < E.length := by omega
    have er : r = (E[j].l, 0) := by rw [hr, elR, if_neg (by omega), Int.toNat_natCast, List.getElem?_eq_getElem hjl]
    subst er
    refine Ev.step (f := fun k => (galoisref22_Same.f k E[j].l E[j].l).bind fun t => if t = true then galoislaw23_PermgroupMembers.j2 k l1 b x8 x9 x10 (E.map Pm.l) (n : Int) (S.map Pm.l) else some false) (fun k => ?_) ?_
    · have c1 : (0 : Int) ≤ (j : Int) := Int.natCast_nonneg j
      have c2 : (j : Int) < ((E.map Pm.l).length : Int) := by rw [List.length_map]; omega
      have e3 : rd_L1 (E.map Pm.l) (j : Int) = E[j].l := mapl_get E j hjl
      simp only [galoislaw23_PermgroupMembers.j1, if_neg h, if_true, eq_true c1, eq_true c2, e3]
    · refine Ev.bind (sameP _ _ hn) ?_
      simp only [decide_true, if_true]
      exact hj
theorem mb_j0 (a : Int) (L : List (List Int)) (l1 : List Int) (i : Int) (hi : i ≤ 9223372036854775807) (fl : Bool) (hs : fl = false → chkG a L = 0 → ∃ (n : Nat) (S E : List (Pm n)), Fit a L n S E) : Ev (fun k => galoislaw23_PermgroupMembers.j0 k l1 i fl a L) true := by
  cases fl with
  | true => exact Ev.step (f := fun _ => some true) (fun k => by simp only [galoislaw23_PermgroupMembers.j0, if_true]; rfl) (Ev.now _)
  | false =>
    refine Ev.step (f := fun k => (permgroup_Contains.f k a L l1).bind fun bt229 => ((permgroup_Index.f k a L l1).bind fun bt231 => ((permgroup_Element.f k a L i).bind fun bt233 => ((galoisref23_Check.f k a L).bind fun t237 => (if t237 = 0 then ((galoisref23_Elements.f k a L).bind fun bt238 => (if i < 0 then (galoislaw23_PermgroupMembers.j1 k l1 i bt229.1 bt229.2 bt231.1 bt231.2 bt233.1 bt233.2 bt238.1 true a L) else (galoislaw23_PermgroupMembers.j1 k l1 i bt229.1 bt229.2 bt231.1 bt231.2 bt233.1 bt233.2 bt238.1 (decide (i ≥ (bt238.1.length : Int))) a L))) else (if bt229.1 = true then (some false) else (if bt229.2 = t237 then (if bt231.1 = 0 then (if bt231.2 = t237 then (if (bt233.1.length : Int) = 0 then (some (bt233.2 == t237)) else (some false)) else (some false)) else (some false)) else (some false)))))))) (fun k => by simp only [galoislaw23_PermgroupMembers.j0, Bool.false_eq_true, if_false]) ?_
    by_cases h0 : chkG a L = 0
    · obtain ⟨n, S, E, rfl, hn, rfl, hS, hE, hG, hl⟩ := hs rfl h0
      have hel := permgroup_Element.ev hn S hS hE hG i hi
      have hall := elementsP hn hE hG
      have hR : closeR E = (E.map Pm.l, true) := by unfold closeR; rw [if_pos hl]
      rw [hR] at hall
      have fin : ∀ (b : Bool) (x8 x9 x10 : Int), Ev (fun k => galoislaw23_PermgroupMembers.j2 k l1 b x8 x9 x10 (E.map Pm.l) (n : Int) (S.map Pm.l)) true → Ev (fun k => (galoisref23_Elements.f k (n : Int) (S.map Pm.l)).bind fun bt238 => (if i < 0 then (galoislaw23_PermgroupMembers.j1 k l1 i b x8 x9 x10 (elR E i).1 (elR E i).2 bt238.1 true (n : Int) (S.map Pm.l)) else (galoislaw23_PermgroupMembers.j1 k l1 i b x8 x9 x10 (elR E i).1 (elR E i).2 bt238.1 (decide (i ≥ (bt238.1.length : Int))) (n : Int) (S.map Pm.l)))) true := fun b x8 x9 x10 hj => by
        refine Ev.bind hall ?_
        by_cases c : i < 0
        · simp only [if_pos c]
          exact mb_j1 hn l1 b x8 x9 x10 i hj _ rfl true ⟨fun _ => .inl c, fun _ => rfl⟩
        · have := mb_j1 hn l1 b x8 x9 x10 i hj _ rfl (decide (i ≥ ((E.map Pm.l).length : Int))) (by rw [decide_eq_true_iff, List.length_map]; exact ⟨fun h => .inr h, fun h => h.resolve_left c⟩)
          simp only [if_neg c]
          exact this
      by_cases h1 : chkE (n : Int) l1 = 0
      · obtain ⟨p, rfl⟩ := chkE_to h1
        refine Ev.bind (permgroup_Contains.ev hn S hS p) (Ev.bind (permgroup_Index.ev hn S hS hE hG p) (Ev.bind hel (Ev.bind (QRf.galoisref23_Check.ev _ _) ?_)))
        simp only [if_pos h0]
        exact fin _ _ _ _ (mb_j2_good hn hS hE hG hl p _ (decide_eq_decide.2 (hG p).symm) _ rfl)
      · obtain ⟨e, he⟩ : ∃ e, chkE (n : Int) l1 = e := ⟨_, rfl⟩
        have hw : (if chkG (n : Int) (S.map Pm.l) = 0 then chkE (n : Int) l1 else chkG (n : Int) (S.map Pm.l)) = e := by rw [if_pos h0]; exact he
        have e0 : e ≠ 0 := he ▸ h1
        refine Ev.bind (permgroup_Contains.bad hw e0) (Ev.bind (permgroup_Index.bad hw e0) (Ev.bind hel (Ev.bind (QRf.galoisref23_Check.ev _ _) ?_)))
        simp only [if_pos h0]
        exact fin _ _ _ _ (mb_j2_bad hn hS l1 e he e0)
    · obtain ⟨e, he⟩ : ∃ e, chkG a L = e := ⟨_, rfl⟩
      have e0 : e ≠ 0 := he ▸ h0
      have hw : (if chkG a L = 0 then chkE a l1 else chkG a L) = e := by rw [if_neg h0]; exact he
      have hc := QRf.galoisref23_Check.ev a L
      rw [he] at hc
      refine Ev.bind (permgroup_Contains.bad hw e0) (Ev.bind (permgroup_Index.bad hw e0) (Ev.bind (permgroup_Element.bad he e0) (Ev.bind hc ?_)))
      simp only [if_neg e0, Bool.false_eq_true, if_false, if_true, List.length_nil, beq_self_eq_true]
      exact Ev.now _
theorem PermgroupMembers : galoislaw23_PermgroupMembers.Pure := by
  intro a L l1 i _ _ _ _ _ hi
  have hi : i ≤ 9223372036854775807 := by
    have hhi : (IntKind.max .i64) = 9223372036854775807 := rfl
    have h2 : IntKind.min .i64 ≤ i ∧ i ≤ 9223372036854775807 := by simpa [Lit.wf, hhi] using hi
    exact h2.2
  apply Ev.rounds
  unfold galoislaw23_PermgroupMembers.f
  refine Ev.congr (f := fun k => (galoislaw23_large.f k a L).bind fun t227 => (if t227 = true then (galoislaw23_PermgroupMembers.j0 k l1 i true a L) else (galoislaw23_PermgroupMembers.j0 k l1 i (decide ((l1.length : Int) > 40)) a L))) (fun k => rfl) ?_
  obtain ⟨b, hb, hs⟩ := large_ev a L
  refine Ev.bind hb ?_
  cases b with
  | true => simp only [if_true]; exact mb_j0 a L l1 i hi true (fun h => by cases h)
  | false => simp only [Bool.false_eq_true, if_false]; exact mb_j0 a L l1 i hi _ (fun _ => hs rfl)
end Go.Proofs.Ytimlnejchieimaa.Pure
