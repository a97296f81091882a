/- PermRanks: for all whole numbers n and k: the permutation of degree n with the rank k is the reference's, and has the rank k; for a bad degree or rank there is the reference's error and no permutation. -/
import Derived.Test.YtoaalfpfklchfaaDoorPPermRanksx4
import Derived.Test.YtoaalfpfklchfaaDoorPPermRanksx5
import Derived.Test.YtoaalfpfklchfaaDoorQPermRanks
namespace Go.Proofs.YtoaalfpfklchfaaDoor.Pure
open Go.RowKit Go.Proofs.YtoaalfpfklchfaaDoor.PPermRanks Go.Proofs.YtoaalfpfklchfaaDoorW.PrintWords Go.Proofs.YtoaalfpfklchfaaDoorW.PrintLast Go.Proofs.YtoaalfpfklchfaaDoor.Plain Go.Proofs.YtoaalfpfklchfaaDoor.QPermRanks
set_option linter.unusedVariables false
set_option linter.unusedSimpArgs false

theorem PermRanks : galoislaw22_PermRanks.Pure := by
  intro n k _ _
  apply Ev.rounds
  unfold galoislaw22_PermRanks.f
  refine Ev.bind galoislaw22_awake.ev ?_
  simp only [if_true]
  have hdeg : galoisref22_Degree.f n = some (degE n) := by
    unfold galoisref22_Degree.f degE
    split
    · rfl
    · split <;> rfl
  simp only [hdeg, Option.bind_some]
  by_cases hd : degE n = 0
  · obtain ⟨N, rfl, hN⟩ := degE_zero hd
    simp only [hd, if_true]
    have bad : ∀ b : List Int × Int, b = ([], 3) → Ev (fun q => galoislaw22_PermRanks.j0 q (N : Int) k b.1 b.2 true) true := by
      rintro b rfl
      refine Ev.step (f := fun _ => some true) (fun q => ?_) (Ev.now _)
      simp only [galoislaw22_PermRanks.j0, if_true]
      rfl
    by_cases h0 : k < 0
    · refine Ev.bind (perm_Unrank.ev_range N hN k (.inl h0)) ?_
      simp only [if_pos h0]
      exact bad _ rfl
    · obtain ⟨K, rfl⟩ : ∃ K : Nat, k = (K : Int) := ⟨k.toNat, by omega⟩
      by_cases h1 : K < fact N
      · refine Ev.bind (perm_Unrank.ev N hN K h1) ?_
        simp only [if_neg h0]
        refine Ev.bind (galoisref22_Factorial.ev N hN) ?_
        simp only [decide_eq_false (by omega : ¬ (K : Int) ≥ ((fact N : Nat) : Int))]
        have hc := chk_unr hN h1
        have hr := rk_unr N (lf (fun i => i) N) K (lf_length _ _) h1 (id_sorted N)
        have hl := unr_length N (lf (fun i => i) N) K (lf_length _ _) h1
        refine Ev.step (fun q => by simp only [galoislaw22_PermRanks.j0, Bool.false_eq_true, if_false]; rfl) ?_
        refine Ev.bind (perm_Rank.ev _ hc) ?_
        simp only [if_true]
        refine Ev.bind (galoisref22_Unrank.ev N hN K h1) ?_
        refine Ev.bind (galoisref22_Same.ev _ _ (by rw [hl]; omega)) ?_
        simp only [decide_true, if_true, hr, beq_self_eq_true]
        exact Ev.now _
      · refine Ev.bind (perm_Unrank.ev_range N hN (K : Int) (.inr (by omega))) ?_
        simp only [if_neg h0]
        refine Ev.bind (galoisref22_Factorial.ev N hN) ?_
        simp only [decide_eq_true (by omega : (K : Int) ≥ ((fact N : Nat) : Int))]
        exact bad _ rfl
  · refine Ev.bind (perm_Unrank.ev_deg n k hd) ?_
    simp only [if_neg hd, if_true]
    exact Ev.now _

end Go.Proofs.YtoaalfpfklchfaaDoor.Pure
