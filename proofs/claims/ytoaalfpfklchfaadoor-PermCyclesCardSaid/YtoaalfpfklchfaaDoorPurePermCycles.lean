/- PermCycles: for every degree n, and all lists of lists of points (40 lists of 40 points): the lists are the cycles of the permutation of the reference, or have its error; so does the degree, and its identity. -/
import Derived.Test.YtoaalfpfklchfaaDoorPPermCyclesx4
import Derived.Test.YtoaalfpfklchfaaDoorPPermCyclesx8
import Derived.Test.YtoaalfpfklchfaaDoorQPermCycles
namespace Go.Proofs.YtoaalfpfklchfaaDoor.Pure
open Go.RowKit Go.Proofs.YtoaalfpfklchfaaDoor.PPermCycles Go.Proofs.YtoaalfpfklchfaaDoorW.PrintWords Go.Proofs.YtoaalfpfklchfaaDoorW.PrintLast Go.Proofs.YtoaalfpfklchfaaDoor.Plain Go.Proofs.YtoaalfpfklchfaaDoor.QPermCycles
set_option linter.unusedVariables false
set_option linter.unusedSimpArgs false

theorem PermCycles : galoislaw22_PermCycles.Pure := by
  intro n C _ hC0 _
  apply Ev.rounds
  unfold galoislaw22_PermCycles.f
  refine Ev.bind galoislaw22_awake.ev ?_
  simp only [if_true]
  have early : Ev (fun k => galoislaw22_PermCycles.j0 k n C true) true := by
    refine Ev.step (f := fun k => (galoislaw22_awake.f k).bind fun t => some t) (fun k => ?_) (Ev.bind galoislaw22_awake.ev (Ev.now _))
    simp only [galoislaw22_PermCycles.j0, if_true]
  by_cases h40 : (C.length : Int) > 40
  · simp only [if_pos h40]
    exact early
  · simp only [if_neg h40]
    refine Ev.bind (galoislaw22_few.ev C (by omega)) ?_
    by_cases hf : (C.all fun x => decide (x.length ≤ 40)) = true
    · have hc : ∀ c ∈ C, c.length ≤ 40 := fun c hcm => of_decide_eq_true (List.all_eq_true.1 hf c hcm)
      simp only [hf, Bool.not_true]
      have ident : ∃ one : List Int, Ev (fun k => perm_Identity.f k n) (one, degE n) ∧ (degE n = 0 → ∃ m : Nat, n = (m : Int) ∧ m ≤ 20 ∧ one = lf (fun i => i) m) ∧ (degE n ≠ 0 → one = []) := by
        by_cases h : degE n = 0
        · obtain ⟨m, rfl, hm⟩ := degE_zero h
          refine ⟨lf (fun i => i) m, ?_, fun _ => ⟨m, rfl, hm, rfl⟩, fun hh => absurd h hh⟩
          rw [h]
          exact perm_Identity.ev m hm
        · exact ⟨[], perm_Identity.ev_bad n h, fun hh => absurd hh h, fun _ => rfl⟩
      obtain ⟨one, i1, i2, i3⟩ := ident
      refine Ev.step (fun k => by simp only [galoislaw22_PermCycles.j0, Bool.false_eq_true, if_false]; rfl) (Ev.bind i1 (Ev.bind (perm_FromCycles.ev n C (by omega) hc) (Ev.bind (galoisref22_FromCycles.ev n C (by omega) hc) ?_)))
      simp only [galoisref22_Degree.eq n, Option.bind_some, if_true]
      refine Ev.bind (galoisref22_Same.ev _ _ (by have := fromC_length n C; omega)) ?_
      simp only [decide_true, Bool.not_true]
      refine Ev.step (fun k => by simp only [galoislaw22_PermCycles.j1, Bool.false_eq_true, if_false]; rfl) ?_
      by_cases h : degE n = 0
      · simp only [if_pos h]
        obtain ⟨m, rfl, hm, rfl⟩ := i2 h
        refine Ev.bind (galoisref22_Identity.ev m (by omega)) (Ev.bind (galoisref22_Same.ev _ _ (by rw [lf_length]; omega)) ?_)
        simp only [decide_true]
        exact Ev.now _
      · simp only [if_neg h]
        rw [i3 h]
        exact Ev.now _
    · simp only [Bool.not_eq_true] at hf
      simp only [hf, Bool.not_false]
      exact early

end Go.Proofs.YtoaalfpfklchfaaDoor.Pure
