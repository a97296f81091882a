/- PermGroup: for all lists a, b and c of at most 40 points that are permutations of one degree: the product is associative, the inverse of a product is the product of the inverses in the opposite order, the sign is multiplicative, and conjugates multiply, and have the same type. -/
import Derived.Test.YtoaalfpfklchfaaDoorPPermGroupx4
import Derived.Test.YtoaalfpfklchfaaDoorPPermGroupx6
import Derived.Test.YtoaalfpfklchfaaDoorQPermGroup
namespace Go.Proofs.YtoaalfpfklchfaaDoor.Pure
open Go.RowKit Go.Proofs.YtoaalfpfklchfaaDoor.PPermGroup Go.Proofs.YtoaalfpfklchfaaDoorW.PrintWords Go.Proofs.YtoaalfpfklchfaaDoorW.PrintLast Go.Proofs.YtoaalfpfklchfaaDoor.Plain Go.Proofs.YtoaalfpfklchfaaDoor.QPermGroup
set_option linter.unusedVariables false
set_option linter.unusedSimpArgs false

theorem PermGroup : galoislaw22_PermGroup.Pure := by
  intro a b c _ _ _ _ _ _ _ _ _
  apply Ev.rounds
  unfold galoislaw22_PermGroup.f
  refine Ev.bind galoislaw22_awake.ev ?_
  simp only [if_true]
  have early : Ev (fun k => galoislaw22_PermGroup.j0 k a b c true) true := by
    refine Ev.step (f := fun k => (galoislaw22_awake.f k).bind fun t => some t) (fun k => ?_) (Ev.bind galoislaw22_awake.ev (Ev.now _))
    simp only [galoislaw22_PermGroup.j0, if_true]
  refine Ev.bind (galoislaw22_right.ev a b) ?_
  by_cases h1 : a.length ≤ 40 ∧ b.length ≤ 40 ∧ chk2 a b = 0
  · simp only [decide_eq_true h1, if_true]
    refine Ev.bind (galoislaw22_right.ev b c) ?_
    by_cases h2 : b.length ≤ 40 ∧ c.length ≤ 40 ∧ chk2 b c = 0
    · simp only [decide_eq_true h2, Bool.not_true]
      obtain ⟨ca, cb, lab⟩ := chk2_zero h1.2.2
      obtain ⟨_, cc, lbc⟩ := chk2_zero h2.2.2
      obtain ⟨hl, ba, ea⟩ := of_chk ca
      obtain ⟨_, bb, eb⟩ := of_chk cb
      obtain ⟨_, bc, ec⟩ := of_chk cc
      rw [← lab] at bb eb
      rw [← lbc, ← lab] at bc ec
      generalize a.length = N at *
      generalize gf a = f at *
      generalize gf b = g at *
      generalize gf c = h at *
      subst ea eb ec
      have bab := ba.comp bb
      have bbc := bb.comp bc
      refine Ev.step (fun k => by simp only [galoislaw22_PermGroup.j0, Bool.false_eq_true, if_false]; rfl) ?_
      refine Ev.bind (perm_Mul.ev_lf f g N ba bb hl) (Ev.bind (perm_Mul.ev_lf g h N bb bc hl) (Ev.bind (perm_Mul.ev_lf _ h N bab bc hl) (Ev.bind (perm_Mul.ev_lf f _ N ba bbc hl) (Ev.bind (perm_Inverse.ev _ N bab hl) (Ev.bind (perm_Inverse.ev f N ba hl) (Ev.bind (perm_Inverse.ev g N bb hl) (Ev.bind (perm_Mul.ev_lf _ _ N bb.inv ba.inv hl) ?_)))))))
      simp only [if_true]
      refine Ev.bind (galoisref22_Same.ev _ _ (by rw [lf_length]; omega)) ?_
      simp only [decide_true, if_true]
      have inv2 : lf (inv (fun i => g (f i)) N) N = lf (fun i => inv f N (inv g N i)) N := lf_congr fun i hi => by
        have hgi := bb.inv_lt hi
        have hfi := ba.inv_lt hgi
        refine bab.inj _ _ (bab.inv_lt hi) hfi ?_
        rw [bab.g_inv hi]
        show i = g (f (inv f N (inv g N i)))
        rw [ba.g_inv hgi, bb.g_inv hi]
      refine Ev.bind (galoisref22_Same.ev _ _ (by rw [lf_length]; omega)) ?_
      simp only [decide_eq_true inv2, Bool.not_true]
      refine Ev.step (fun k => by simp only [galoislaw22_PermGroup.j1, Bool.false_eq_true, if_false]; rfl) ?_
      have u1 : Bij N (fun i => h (f (inv h N i))) := bc.inv.comp (ba.comp bc)
      have u2 : Bij N (fun i => h (g (inv h N i))) := bc.inv.comp (bb.comp bc)
      refine Ev.bind (perm_Sign.ev f N ba hl) (Ev.bind (perm_Sign.ev g N bb hl) (Ev.bind (perm_Sign.ev _ N bab hl) (Ev.bind (perm_Conjugate.ev f h N ba bc hl) (Ev.bind (perm_Conjugate.ev g h N bb bc hl) (Ev.bind (perm_Conjugate.ev _ h N bab bc hl) (Ev.bind (perm_Mul.ev_lf _ _ N u1 u2 hl) ?_))))))
      have unit : ∀ l : List Int, invS l = 1 ∨ invS l = -1 := by
        intro l
        have h := congrArg Int.natAbs (invS_sq l)
        rw [Int.natAbs_mul] at h
        have h1 : (invS l).natAbs = 1 := Nat.dvd_one.1 ⟨_, h.symm⟩
        omega
      have sgn : invS (lf (fun i => g (f i)) N) = wrap64 (invS (lf f N) * invS (lf g N)) := by
        rw [invS_mul f g N ba bb]
        rcases unit (lf f N) with e1 | e1 <;> rcases unit (lf g N) with e2 | e2 <;> rw [e1, e2] <;> exact (w64_small (by decide) (by decide)).symm
      simp only [if_true, if_pos sgn]
      have conj : lf (fun i => h (g (f (inv h N i)))) N = lf (fun i => h (g (inv h N (h (f (inv h N i)))))) N := lf_congr fun i hi => by
        rw [bc.inv_g (ba.lt _ (bc.inv_lt hi))]
      refine Ev.bind (galoisref22_Same.ev _ _ (by rw [lf_length]; omega)) ?_
      simp only [decide_eq_true conj, Bool.not_true]
      refine Ev.step (fun k => by simp only [galoislaw22_PermGroup.j2, Bool.false_eq_true, if_false]; rfl) ?_
      refine Ev.bind (perm_Type.ev f N ba hl) (Ev.bind (perm_Type.ev _ N u1 hl) ?_)
      simp only [if_true]
      have types : sortDesc (coll f N) = sortDesc (coll (fun i => h (f (inv h N i))) N) := by
        refine desc_unique ((sortDesc_perm _).trans (((coll_lens f N ba).trans (lens_conj ba bc u1 fun i hi => ?_).symm).trans ((coll_lens _ N u1).symm.trans (sortDesc_perm _).symm))) (sortDesc_sorted _) (sortDesc_sorted _)
        show h (f (inv h N (h i))) = h (f i)
        rw [bc.inv_g hi]
      refine Ev.bind (galoisref22_Same.ev _ _ ?_) ?_
      · rw [(sortDesc_perm _).length_eq]
        exact of_decide_eq_true (Bool.and_eq_true_iff.1 (coll_small f N ba hl)).1
      · simp only [decide_eq_true types]
        exact Ev.now _
    · simp only [decide_eq_false h2, Bool.not_false]
      exact early
  · simp only [decide_eq_false h1, Bool.false_eq_true, if_false]
    exact early

end Go.Proofs.YtoaalfpfklchfaaDoor.Pure
