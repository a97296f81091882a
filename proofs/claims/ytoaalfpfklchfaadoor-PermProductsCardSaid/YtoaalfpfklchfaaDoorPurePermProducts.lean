/- PermProducts: for all lists a and b of at most 40 points, and every exponent n: products, conjugates, commutators, comparisons and powers are as in the reference, or have its errors. -/
import Derived.Test.YtoaalfpfklchfaaDoorPPermProductsx1
import Derived.Test.YtoaalfpfklchfaaDoorPPermProductsx4
import Derived.Test.YtoaalfpfklchfaaDoorPPermProductsx5
import Derived.Test.YtoaalfpfklchfaaDoorPPermProductsx6
import Derived.Test.YtoaalfpfklchfaaDoorPPermProductsx7
import Derived.Test.YtoaalfpfklchfaaDoorPPermProductsx8
import Derived.Test.YtoaalfpfklchfaaDoorQPermProducts
namespace Go.Proofs.YtoaalfpfklchfaaDoor.Pure
open Go.RowKit Go.Proofs.YtoaalfpfklchfaaDoor.PPermProducts Go.Proofs.YtoaalfpfklchfaaDoorW.PrintWords Go.Proofs.YtoaalfpfklchfaaDoorW.PrintLast Go.Proofs.YtoaalfpfklchfaaDoor.Plain Go.Proofs.YtoaalfpfklchfaaDoor.QPermProducts
set_option linter.unusedVariables false
set_option linter.unusedSimpArgs false

theorem PermProducts : galoislaw22_PermProducts.Pure := by
  intro a b n _ _ _ _ _ _ _
  apply Ev.rounds
  unfold galoislaw22_PermProducts.f
  refine Ev.bind galoislaw22_awake.ev ?_
  simp only [if_true]
  have early : Ev (fun k => galoislaw22_PermProducts.j0 k a b n true) true := by
    refine Ev.step (f := fun k => (galoislaw22_awake.f k).bind fun t => some t) (fun k => ?_) (Ev.bind galoislaw22_awake.ev (Ev.now _))
    simp only [galoislaw22_PermProducts.j0, if_true]
  refine Ev.bind (galoislaw22_few.ev [a, b] (by simp)) ?_
  by_cases hf : a.length ≤ 40 ∧ b.length ≤ 40
  · simp only [List.all_cons, List.all_nil, decide_eq_true hf.1, decide_eq_true hf.2, Bool.and_true, Bool.not_true]
    -- the last part: both valid, or an error
    have last : ∀ (c d x : List Int) (y : Int),
        (chk2 a b = 0 → c = mulL a b ∧ Ev (fun k => galoisref22_Conjugate.f k a b) d ∧ Ev (fun k => galoisref22_Commutator.f k a b) x ∧ y = cmpL a b) → (chk2 a b ≠ 0 → c = [] ∧ d = [] ∧ x = [] ∧ y = 0) → c.length ≤ 40 → d.length ≤ 40 → x.length ≤ 40 →
        Ev (fun k => galoislaw22_PermProducts.j1 k a b c (chk2 a b) d (chk2 a b) x (chk2 a b) y (chk2 a b) false) true := by
      intro c d x y h1 h2 lc ld lx
      refine Ev.step (fun k => by simp only [galoislaw22_PermProducts.j1, Bool.false_eq_true, if_false]; rfl) (Ev.bind (galoisref22_Two.ev a b) ?_)
      simp only [if_true, bne_self_eq_false]
      refine Ev.step (fun k => by simp only [galoislaw22_PermProducts.j2, Bool.false_eq_true, if_false]; rfl) ?_
      by_cases h : chk2 a b = 0
      · simp only [if_pos h]
        obtain ⟨rfl, hd, hx, rfl⟩ := h1 h
        have hl : a.length = b.length := by
          unfold chk2 at h
          split at h
          · split at h
            · split at h
              · assumption
              · exact absurd h (by omega)
            · exact absurd h ‹_›
          · exact absurd h ‹_›
        have hca : chk a = 0 := by
          unfold chk2 at h
          split at h
          · assumption
          · exact absurd h ‹_›
        obtain ⟨h20, hb, el⟩ := of_chk hca
        have hr : ∀ z ∈ a, 0 ≤ z ∧ z < (b.length : Int) := by
          rw [← hl]
          exact ((chk_zero a).1 hca).2.1
        refine Ev.bind (galoisref22_Mul.ev a b (by omega) hr) (Ev.bind (galoisref22_Same.ev _ _ (by omega)) ?_)
        simp only [decide_true, if_true]
        refine Ev.bind hd (Ev.bind (galoisref22_Same.ev _ _ (by omega)) ?_)
        simp only [decide_true, if_true]
        refine Ev.bind hx (Ev.bind (galoisref22_Same.ev _ _ (by omega)) ?_)
        simp only [decide_true, if_true]
        refine Ev.bind (galoisref22_Compare.ev a b hl (by omega)) ?_
        rw [show (cmpL a b == cmpL a b) = true from beq_self_eq_true _]
        exact Ev.now _
      · simp only [if_neg h]
        obtain ⟨rfl, rfl, rfl, rfl⟩ := h2 h
        exact Ev.now _
    have go : ∀ (c d x : List Int) (y : Int), Ev (fun k => perm_Mul.f k a b) (c, chk2 a b) → Ev (fun k => perm_Conjugate.f k a b) (d, chk2 a b) → Ev (fun k => perm_Commutator.f k a b) (x, chk2 a b) → Ev (fun k => perm_Compare.f k a b) (y, chk2 a b) →
        (chk2 a b = 0 → c = mulL a b ∧ Ev (fun k => galoisref22_Conjugate.f k a b) d ∧ Ev (fun k => galoisref22_Commutator.f k a b) x ∧ y = cmpL a b) → (chk2 a b ≠ 0 → c = [] ∧ d = [] ∧ x = [] ∧ y = 0) → c.length ≤ 40 → d.length ≤ 40 → x.length ≤ 40 →
        Ev (fun k => galoislaw22_PermProducts.j0 k a b n false) true := by
      intro c d x y e1 e2 e3 e4 h1 h2 lc ld lx
      refine Ev.step (fun k => by simp only [galoislaw22_PermProducts.j0, Bool.false_eq_true, if_false]; rfl) (Ev.bind e1 (Ev.bind e2 (Ev.bind e3 (Ev.bind e4 ?_))))
      by_cases hc : chk a = 0
      · obtain ⟨h20, hb, el⟩ := of_chk hc
        have p1 := perm_Pow.ev (gf a) a.length hb h20 n
        have p2 := galoisref22_Pow.ev (gf a) a.length hb h20 n
        rw [← el] at p1 p2
        refine Ev.bind p1 (Ev.bind (galoisref22_Check.ev a) ?_)
        simp only [hc, if_true]
        refine Ev.bind p2 (Ev.bind (galoisref22_Same.ev _ _ (by rw [lf_length]; omega)) ?_)
        simp only [decide_true, Bool.not_true]
        exact last c d x y h1 h2 lc ld lx
      · refine Ev.bind (perm_Pow.ev_bad a n hc) (Ev.bind (galoisref22_Check.ev a) ?_)
        simp only [if_neg hc, if_true, List.length_nil]
        exact last c d x y h1 h2 lc ld lx
    by_cases h : chk2 a b = 0
    · have hca : chk a = 0 := by
        unfold chk2 at h
        split at h
        · assumption
        · exact absurd h ‹_›
      have hcb : chk b = 0 := by
        unfold chk2 at h
        rw [if_pos hca] at h
        split at h
        · assumption
        · exact absurd h ‹_›
      have hl : a.length = b.length := by
        unfold chk2 at h
        rw [if_pos hca, if_pos hcb] at h
        split at h
        · assumption
        · exact absurd h (by omega)
      obtain ⟨h20, hb, el⟩ := of_chk hca
      obtain ⟨_, hb', el'⟩ := of_chk hcb
      rw [← hl] at hb' el'
      have m1 := perm_Mul.ev_lf (gf a) (gf b) a.length hb hb' h20
      have m2 := perm_Conjugate.ev (gf a) (gf b) a.length hb hb' h20
      have m3 := perm_Commutator.ev (gf a) (gf b) a.length hb hb' h20
      have m5 := galoisref22_Conjugate.ev (gf a) (gf b) a.length hb hb' h20
      have m6 := galoisref22_Commutator.ev (gf a) (gf b) a.length hb hb' h20
      have mm := mulL_lf (gf a) (gf b) a.length hb.lt
      rw [← el, ← el'] at m1 m2 m3 m5 m6 mm
      have m4 := perm_Compare.ev a b h hl h20
      exact go _ _ _ _ (by rw [h]; exact m1) (by rw [h]; exact m2) (by rw [h]; exact m3) (by rw [h]; exact m4) (fun _ => ⟨mm.symm, m5, m6, rfl⟩) (fun hh => absurd h hh) (by rw [lf_length]; omega) (by rw [lf_length]; omega) (by rw [lf_length]; omega)
    · exact go [] [] [] 0 (perm_Mul.ev_bad a b h) (perm_Conjugate.ev_bad a b h) (perm_Commutator.ev_bad a b h) (perm_Compare.ev_bad a b h) (fun hh => absurd hh h) (fun _ => ⟨rfl, rfl, rfl, rfl⟩) (by simp) (by simp) (by simp)
  · have : ([a, b].all fun x => decide (x.length ≤ 40)) = false := by
      simp only [List.all_cons, List.all_nil, Bool.and_true, Bool.and_eq_false_iff, decide_eq_false_iff_not]
      omega
    simp only [this, Bool.not_false]
    exact early

end Go.Proofs.YtoaalfpfklchfaaDoor.Pure
