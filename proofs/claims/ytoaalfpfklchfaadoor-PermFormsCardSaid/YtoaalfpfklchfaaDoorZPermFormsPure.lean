/- PermForms: for every list of at most 40 points: it is a permutation, and has the inverse, order, sign, cycles, type, support and rank, as in the reference, or all functions return the error of Check. -/
import Derived.Test.YtoaalfpfklchfaaDoorZPermFormsPx4
import Derived.Test.YtoaalfpfklchfaaDoorZPermFormsPx9
import Derived.Test.YtoaalfpfklchfaaDoorZPermFormsQ
namespace Go.Proofs.YtoaalfpfklchfaaDoor.Pure
open Go.RowKit Go.Proofs.YtoaalfpfklchfaaDoor.PPermForms Go.Proofs.YtoaalfpfklchfaaDoorW.PrintWords Go.Proofs.YtoaalfpfklchfaaDoorW.PrintLast Go.Proofs.YtoaalfpfklchfaaDoor.Plain Go.Proofs.YtoaalfpfklchfaaDoor.QPermForms
set_option linter.unusedVariables false
set_option linter.unusedSimpArgs false

theorem PermForms : galoislaw22_PermForms.Pure := by
  intro l _ _ _
  apply Ev.rounds
  unfold galoislaw22_PermForms.f
  refine Ev.bind galoislaw22_awake.ev ?_
  simp only [if_true]
  have early : Ev (fun k => galoislaw22_PermForms.j0 k l true) true := by
    refine Ev.step (f := fun k => (galoislaw22_awake.f k).bind fun t => some t) (fun k => ?_) (Ev.bind galoislaw22_awake.ev (Ev.now _))
    simp only [galoislaw22_PermForms.j0, if_true]
  refine Ev.bind (galoislaw22_few.ev [l] (by simp)) ?_
  by_cases hf : l.length ≤ 40
  · simp only [List.all_cons, List.all_nil, decide_eq_true hf, Bool.and_true, Bool.not_true]
    refine Ev.step (fun k => by simp only [galoislaw22_PermForms.j0, Bool.false_eq_true, if_false]; rfl) ?_
    by_cases hc : chk l = 0
    · obtain ⟨hl, hb, el⟩ := of_chk hc
      have hrk := perm_Rank.ev l hc
      have hrk' := galoisref22_Rank.ev l hl
      generalize hg : gf l = g at *
      generalize hk : l.length = N at *
      generalize rk l = rank at hrk hrk'
      subst el
      refine Ev.bind (perm_Inverse.ev g N hb hl) (Ev.bind (perm_Order.ev g N hb hl) (Ev.bind (perm_Sign.ev g N hb hl) (Ev.bind (perm_Cycles.ev g N hb hl) (Ev.bind (perm_Type.ev g N hb hl) (Ev.bind (perm_Support.ev g N hb hl) (Ev.bind hrk (Ev.bind (galoisref22_Check.ev _) (Ev.bind (perm_Check.ev _) ?_))))))))
      simp only [hc, if_true, bne_self_eq_false]
      refine Ev.step (fun k => by simp only [galoislaw22_PermForms.j1, Bool.false_eq_true, if_false, if_true]; rfl) ?_
      refine Ev.bind (galoisref22_Inverse.ev g N hb hl) (Ev.bind (galoisref22_Same.ev _ _ (by rw [lf_length]; omega)) ?_)
      simp only [decide_true, if_true]
      refine Ev.bind (galoisref22_Order.ev g N hb hl) ?_
      simp only [if_true]
      refine Ev.bind (galoisref22_Sign.ev _ (by rw [lf_length]; omega)) ?_
      simp only [if_true]
      refine Ev.bind (galoisref22_Cycles.ev g N hb hl) ?_
      have hcl := cyc_len g N N
      refine Ev.bind (galoisref22_SameLists.ev_self _ (by unfold cycI; rw [List.length_map]; omega) ?_) ?_
      · intro c hcm
        obtain ⟨c', hc', rfl⟩ := List.mem_map.1 hcm
        obtain ⟨j, hj, rfl⟩ := List.mem_map.1 hc'
        have hj' := List.mem_range.1 (List.mem_filter.1 hj).1
        rw [show (ints (orb g N j)).length = per g N j by simp [ints, orb_length]]
        have := (hb.per_spec hj').2.1
        omega
      · simp only [if_true]
        have et : sortDesc (coll g N) = refT g N N := desc_unique ((sortDesc_perm _).trans ((coll_lens g N hb).trans (refT_lens g N hb).symm)) (sortDesc_sorted _) (refT_sorted g N N)
        refine Ev.bind (galoisref22_Type.ev g N hb hl) (Ev.bind (galoisref22_Same.ev _ _ ?_) ?_)
        · rw [(sortDesc_perm _).length_eq]
          have h1 := (Bool.and_eq_true_iff.1 (coll_small g N hb hl)).1
          exact of_decide_eq_true h1
        · simp only [decide_eq_true et, if_true]
          refine Ev.bind (galoisref22_Support.ev g N hl) (Ev.bind (galoisref22_Same.ev _ _ (by have := supp_length g N; omega)) ?_)
          simp only [decide_true, if_true]
          refine Ev.bind hrk' ?_
          rw [show ((rank : Int) == (rank : Int)) = true from beq_self_eq_true _]
          exact Ev.now _
    · refine Ev.bind (perm_Inverse.ev_bad l hc) (Ev.bind (perm_Order.ev_bad l hc) (Ev.bind (perm_Sign.ev_bad l hc) (Ev.bind (perm_Cycles.ev_bad l hc) (Ev.bind (perm_Type.ev_bad l hc) (Ev.bind (perm_Support.ev_bad l hc) (Ev.bind (perm_Rank.ev_bad l hc) (Ev.bind (galoisref22_Check.ev _) (Ev.bind (perm_Check.ev _) ?_))))))))
      simp only [if_true, bne_self_eq_false]
      refine Ev.step (fun k => by simp only [galoislaw22_PermForms.j1, Bool.false_eq_true, if_false, if_neg hc]; rfl) ?_
      exact Ev.now _
  · simp only [List.all_cons, List.all_nil, decide_eq_false hf, Bool.false_and, Bool.not_false]
    exact early

end Go.Proofs.YtoaalfpfklchfaaDoor.Pure
