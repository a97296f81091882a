-- Printed by wip/tools/mk.py of this repo (the kit's print with turns made in memory).
import Derived.Test.YtimlnejchieimaaZPermgroupConjugatesPCjx0
import Derived.Test.YtimlnejchieimaaZPermgroupConjugatesPCjx1
import Derived.Test.YtimlnejchieimaaZPermgroupConjugatesPCjx2
import Derived.Test.YtimlnejchieimaaZPermgroupConjugatesPCjx3
import Derived.Test.YtimlnejchieimaaZPermgroupConjugatesPCjx4
import Derived.Test.YtimlnejchieimaaZPermgroupConjugatesPCjx5
namespace Go.Proofs.Ytimlnejchieimaa.PCj
open Go.RowKit Go.Proofs.YtimlnejchieimaaW.PrintWords Go.Proofs.YtimlnejchieimaaW.PrintLast Go.Proofs.YtimlnejchieimaaW.PrintMore Go.Proofs.Ytimlnejchieimaa.PAll
attribute [local go_sem] max2_int min2_int max_two min_two max_three min_three max_four min_four   -- for this text's walks alone
set_option linter.unusedVariables false
set_option linter.unusedSimpArgs false
mutual
def galoislaw23_PermgroupConjugates.j0 : Nat → List Int → List Int → Bool → Int → List (List Int) → Option (Bool)
  | 0, _, _, _, _, _ => none
  | k + 1, x1, x2, x57, x357000, x357001 => if x57 = true then ((galoislaw23_awake.f k).bind fun t362 => (some t362)) else ((permgroup_Conjugate.f k x357000 x357001 x1).bind fun bt363 => ((galoisref23_With.f k x357000 x357001 x1).bind fun t369 => (if t369 = 0 then (if bt363.2.2 = 0 then (if bt363.1 = x357000 then (galoislaw23_PermgroupConjugates.j1 k x1 x2 ((bt363.2.1.length : Int) != (x357001.length : Int)) x357000 x357001 bt363.1 bt363.2.1) else (galoislaw23_PermgroupConjugates.j1 k x1 x2 true x357000 x357001 bt363.1 bt363.2.1)) else (galoislaw23_PermgroupConjugates.j1 k x1 x2 true x357000 x357001 bt363.1 bt363.2.1)) else ((galoislaw23_none.f bt363.1 bt363.2.1).bind fun t370 => (if t370 = true then (some (bt363.2.2 == t369)) else (some false))))))
def galoislaw23_PermgroupConjugates.j1 : Nat → List Int → List Int → Bool → Int → List (List Int) → Int → List (List Int) → Option (Bool)
  | 0, _, _, _, _, _, _, _ => none
  | k + 1, x1, x2, x94, x357000, x357001, x369000, x369001 => if x94 = true then (some false) else (galoislaw23_PermgroupConjugates.l0 k x1 x2 0 x357000 x357001 x369000 x369001)
def galoislaw23_PermgroupConjugates.l0 : Nat → List Int → List Int → Int → Int → List (List Int) → Int → List (List Int) → Option (Bool)
  | 0, _, _, _, _, _, _, _ => none
  | k + 1, x1, x2, x10, x357000, x357001, x369000, x369001 => if x10 < (x369001.length : Int) then (if 0 ≤ x10 then (if x10 < (x357001.length : Int) then ((galoisref22_Conjugate.f k (rd_L1 x357001 x10) x1).bind fun t373 => ((galoisref22_Same.f k (rd_L1 x369001 x10) t373).bind fun t376 => (if t376 = true then (galoislaw23_PermgroupConjugates.l0 k x1 x2 (wrap64 (x10 + 1)) x357000 x357001 x369000 x369001) else (some false)))) else (none)) else (none)) else ((permgroup_Order.f k x357000 x357001).bind fun bt377 => ((permgroup_Order.f k x369000 x369001).bind fun bt379 => ((galoisref22_Inverse.f k x1).bind fun t381 => ((permgroup_Conjugate.f k x369000 x369001 t381).bind fun bt384 => ((permgroup_Same.f k bt384.1 bt384.2.1 x357000 x357001).bind fun bt390 => (if bt377.2 = 0 then (if bt379.2 = 0 then (if bt377.1 = bt379.1 then (if bt384.2.2 = 0 then (if bt390.2 = 0 then (galoislaw23_PermgroupConjugates.j3 k x1 x2 (!bt390.1) x357000 x357001 x369000 x369001) else (galoislaw23_PermgroupConjugates.j3 k x1 x2 true x357000 x357001 x369000 x369001)) else (galoislaw23_PermgroupConjugates.j3 k x1 x2 true x357000 x357001 x369000 x369001)) else (galoislaw23_PermgroupConjugates.j3 k x1 x2 true x357000 x357001 x369000 x369001)) else (galoislaw23_PermgroupConjugates.j3 k x1 x2 true x357000 x357001 x369000 x369001)) else (galoislaw23_PermgroupConjugates.j3 k x1 x2 true x357000 x357001 x369000 x369001)))))))
def galoislaw23_PermgroupConjugates.j3 : Nat → List Int → List Int → Bool → Int → List (List Int) → Int → List (List Int) → Option (Bool)
  | 0, _, _, _, _, _, _, _ => none
  | k + 1, x1, x2, x161, x357000, x357001, x369000, x369001 => if x161 = true then (some false) else ((galoisref22_Check.f k x2).bind fun t392 => (if t392 = 0 then (galoislaw23_PermgroupConjugates.j4 k x1 x2 ((x2.length : Int) != x357000) x357000 x357001 x369000 x369001) else (galoislaw23_PermgroupConjugates.j4 k x1 x2 true x357000 x357001 x369000 x369001)))
def galoislaw23_PermgroupConjugates.j4 : Nat → List Int → List Int → Bool → Int → List (List Int) → Int → List (List Int) → Option (Bool)
  | 0, _, _, _, _, _, _, _ => none
  | k + 1, x1, x2, x171, x357000, x357001, x369000, x369001 => if x171 = true then (some true) else ((permgroup_Contains.f k x357000 x357001 x2).bind fun bt393 => ((galoisref22_Conjugate.f k x2 x1).bind fun t395 => ((permgroup_Contains.f k x369000 x369001 t395).bind fun bt398 => (if bt393.2 = 0 then (if bt398.2 = 0 then (some (bt393.1 == bt398.1)) else (some false)) else (some false)))))
end
def galoislaw23_PermgroupConjugates.f (k : Nat) (a0_0 : Int) (l0_1 : List (List Int)) (l1 : List Int) (l2 : List Int) : Option (Bool) := (galoislaw23_awake.f k).bind fun t357 => (if t357 = true then ((galoisref23_Few.f k a0_0 l0_1).bind fun t358 => (if t358 = true then (if (l1.length : Int) > 40 then (galoislaw23_PermgroupConjugates.j0 k l1 l2 true a0_0 l0_1) else (if (l2.length : Int) > 40 then (galoislaw23_PermgroupConjugates.j0 k l1 l2 true a0_0 l0_1) else (if a0_0 > 12 then ((galoisref23_Check.f k a0_0 l0_1).bind fun t359 => (if t359 = 0 then (galoislaw23_PermgroupConjugates.j0 k l1 l2 true a0_0 l0_1) else (if (l0_1.length : Int) > 6 then ((galoisref23_Check.f k a0_0 l0_1).bind fun t360 => (galoislaw23_PermgroupConjugates.j0 k l1 l2 (t360 == 0) a0_0 l0_1)) else (galoislaw23_PermgroupConjugates.j0 k l1 l2 false a0_0 l0_1)))) else (if (l0_1.length : Int) > 6 then ((galoisref23_Check.f k a0_0 l0_1).bind fun t361 => (galoislaw23_PermgroupConjugates.j0 k l1 l2 (t361 == 0) a0_0 l0_1)) else (galoislaw23_PermgroupConjugates.j0 k l1 l2 false a0_0 l0_1))))) else (galoislaw23_PermgroupConjugates.j0 k l1 l2 true a0_0 l0_1))) else (galoislaw23_PermgroupConjugates.j0 k l1 l2 true a0_0 l0_1))
theorem galoislaw23_PermgroupConjugates.mono_l : ∀ k, (∀ y0 y1 y2 y3 y4, LeO (galoislaw23_PermgroupConjugates.j0 k y0 y1 y2 y3 y4) (galoislaw23_PermgroupConjugates.j0 (k + 1) y0 y1 y2 y3 y4)) ∧ (∀ y0 y1 y2 y3 y4 y5 y6, LeO (galoislaw23_PermgroupConjugates.j1 k y0 y1 y2 y3 y4 y5 y6) (galoislaw23_PermgroupConjugates.j1 (k + 1) y0 y1 y2 y3 y4 y5 y6)) ∧ (∀ y0 y1 y2 y3 y4 y5 y6, LeO (galoislaw23_PermgroupConjugates.l0 k y0 y1 y2 y3 y4 y5 y6) (galoislaw23_PermgroupConjugates.l0 (k + 1) y0 y1 y2 y3 y4 y5 y6)) ∧ (∀ y0 y1 y2 y3 y4 y5 y6, LeO (galoislaw23_PermgroupConjugates.j3 k y0 y1 y2 y3 y4 y5 y6) (galoislaw23_PermgroupConjugates.j3 (k + 1) y0 y1 y2 y3 y4 y5 y6)) ∧ (∀ y0 y1 y2 y3 y4 y5 y6, LeO (galoislaw23_PermgroupConjugates.j4 k y0 y1 y2 y3 y4 y5 y6) (galoislaw23_PermgroupConjugates.j4 (k + 1) y0 y1 y2 y3 y4 y5 y6))
  | 0 => ⟨fun _ _ _ _ _ r h => by simp [galoislaw23_PermgroupConjugates.j0] at h, fun _ _ _ _ _ _ _ r h => by simp [galoislaw23_PermgroupConjugates.j1] at h, fun _ _ _ _ _ _ _ r h => by simp [galoislaw23_PermgroupConjugates.l0] at h, fun _ _ _ _ _ _ _ r h => by simp [galoislaw23_PermgroupConjugates.j3] at h, fun _ _ _ _ _ _ _ r h => by simp [galoislaw23_PermgroupConjugates.j4] at h⟩
  | k + 1 => by
    obtain ⟨ih0, ih1, ih2, ih3, ih4⟩ := galoislaw23_PermgroupConjugates.mono_l k
    refine ⟨?_, ?_, ?_, ?_, ?_⟩
    · intro y0 y1 y2 y3 y4
      unfold galoislaw23_PermgroupConjugates.j0
      repeat' first
      | (with_reducible exact ih0 _ _ _ _ _)
      | (with_reducible exact ih1 _ _ _ _ _ _ _)
      | (with_reducible exact ih2 _ _ _ _ _ _ _)
      | (with_reducible exact ih3 _ _ _ _ _ _ _)
      | (with_reducible exact ih4 _ _ _ _ _ _ _)
      | (with_reducible exact galoislaw23_awake.mono _)
      | (with_reducible exact galoisref22_Check.mono _ _)
      | (with_reducible exact galoisref22_Conjugate.mono _ _ _)
      | (with_reducible exact galoisref22_Inverse.mono _ _)
      | (with_reducible exact galoisref22_Same.mono _ _ _)
      | (with_reducible exact galoisref23_Check.mono _ _ _)
      | (with_reducible exact galoisref23_Few.mono _ _ _)
      | (with_reducible exact galoisref23_With.mono _ _ _ _)
      | (with_reducible exact permgroup_Conjugate.mono _ _ _ _)
      | (with_reducible exact permgroup_Contains.mono _ _ _ _)
      | (with_reducible exact permgroup_Order.mono _ _ _)
      | (with_reducible exact permgroup_Same.mono _ _ _ _ _)
      | (with_reducible exact LeO.refl _)
      | (with_reducible exact LeO.none _)
      | (with_reducible refine LeO.ite ?_ ?_)
      | (with_reducible refine LeO.bind ?_ (fun _ => ?_))
      | exact ih0 _ _ _ _ _
      | exact ih1 _ _ _ _ _ _ _
      | exact ih2 _ _ _ _ _ _ _
      | exact ih3 _ _ _ _ _ _ _
      | exact ih4 _ _ _ _ _ _ _
      | exact galoislaw23_awake.mono _
      | exact galoisref22_Check.mono _ _
      | exact galoisref22_Conjugate.mono _ _ _
      | exact galoisref22_Inverse.mono _ _
      | exact galoisref22_Same.mono _ _ _
      | exact galoisref23_Check.mono _ _ _
      | exact galoisref23_Few.mono _ _ _
      | exact galoisref23_With.mono _ _ _ _
      | exact permgroup_Conjugate.mono _ _ _ _
      | exact permgroup_Contains.mono _ _ _ _
      | exact permgroup_Order.mono _ _ _
      | exact permgroup_Same.mono _ _ _ _ _
      | exact LeO.none _
      | refine LeO.ite ?_ ?_
      | refine LeO.bind ?_ (fun _ => ?_)
    · intro y0 y1 y2 y3 y4 y5 y6
      unfold galoislaw23_PermgroupConjugates.j1
      repeat' first
      | (with_reducible exact ih0 _ _ _ _ _)
      | (with_reducible exact ih1 _ _ _ _ _ _ _)
      | (with_reducible exact ih2 _ _ _ _ _ _ _)
      | (with_reducible exact ih3 _ _ _ _ _ _ _)
      | (with_reducible exact ih4 _ _ _ _ _ _ _)
      | (with_reducible exact galoislaw23_awake.mono _)
      | (with_reducible exact galoisref22_Check.mono _ _)
      | (with_reducible exact galoisref22_Conjugate.mono _ _ _)
      | (with_reducible exact galoisref22_Inverse.mono _ _)
      | (with_reducible exact galoisref22_Same.mono _ _ _)
      | (with_reducible exact galoisref23_Check.mono _ _ _)
      | (with_reducible exact galoisref23_Few.mono _ _ _)
      | (with_reducible exact galoisref23_With.mono _ _ _ _)
      | (with_reducible exact permgroup_Conjugate.mono _ _ _ _)
      | (with_reducible exact permgroup_Contains.mono _ _ _ _)
      | (with_reducible exact permgroup_Order.mono _ _ _)
      | (with_reducible exact permgroup_Same.mono _ _ _ _ _)
      | (with_reducible exact LeO.refl _)
      | (with_reducible exact LeO.none _)
      | (with_reducible refine LeO.ite ?_ ?_)
      | (with_reducible refine LeO.bind ?_ (fun _ => ?_))
      | exact ih0 _ _ _ _ _
      | exact ih1 _ _ _ _ _ _ _
      | exact ih2 _ _ _ _ _ _ _
      | exact ih3 _ _ _ _ _ _ _
      | exact ih4 _ _ _ _ _ _ _
      | exact galoislaw23_awake.mono _
      | exact galoisref22_Check.mono _ _
      | exact galoisref22_Conjugate.mono _ _ _
      | exact galoisref22_Inverse.mono _ _
      | exact galoisref22_Same.mono _ _ _
      | exact galoisref23_Check.mono _ _ _
      | exact galoisref23_Few.mono _ _ _
      | exact galoisref23_With.mono _ _ _ _
      | exact permgroup_Conjugate.mono _ _ _ _
      | exact permgroup_Contains.mono _ _ _ _
      | exact permgroup_Order.mono _ _ _
      | exact permgroup_Same.mono _ _ _ _ _
      | exact LeO.none _
      | refine LeO.ite ?_ ?_
      | refine LeO.bind ?_ (fun _ => ?_)
    · intro y0 y1 y2 y3 y4 y5 y6
      unfold galoislaw23_PermgroupConjugates.l0
      repeat' first
      | (with_reducible exact ih0 _ _ _ _ _)
      | (with_reducible exact ih1 _ _ _ _ _ _ _)
      | (with_reducible exact ih2 _ _ _ _ _ _ _)
      | (with_reducible exact ih3 _ _ _ _ _ _ _)
      | (with_reducible exact ih4 _ _ _ _ _ _ _)
      | (with_reducible exact galoislaw23_awake.mono _)
      | (with_reducible exact galoisref22_Check.mono _ _)
      | (with_reducible exact galoisref22_Conjugate.mono _ _ _)
      | (with_reducible exact galoisref22_Inverse.mono _ _)
      | (with_reducible exact galoisref22_Same.mono _ _ _)
      | (with_reducible exact galoisref23_Check.mono _ _ _)
      | (with_reducible exact galoisref23_Few.mono _ _ _)
      | (with_reducible exact galoisref23_With.mono _ _ _ _)
      | (with_reducible exact permgroup_Conjugate.mono _ _ _ _)
      | (with_reducible exact permgroup_Contains.mono _ _ _ _)
      | (with_reducible exact permgroup_Order.mono _ _ _)
      | (with_reducible exact permgroup_Same.mono _ _ _ _ _)
      | (with_reducible exact LeO.refl _)
      | (with_reducible exact LeO.none _)
      | (with_reducible refine LeO.ite ?_ ?_)
      | (with_reducible refine LeO.bind ?_ (fun _ => ?_))
      | exact ih0 _ _ _ _ _
      | exact ih1 _ _ _ _ _ _ _
      | exact ih2 _ _ _ _ _ _ _
      | exact ih3 _ _ _ _ _ _ _
      | exact ih4 _ _ _ _ _ _ _
      | exact galoislaw23_awake.mono _
      | exact galoisref22_Check.mono _ _
      | exact galoisref22_Conjugate.mono _ _ _
      | exact galoisref22_Inverse.mono _ _
      | exact galoisref22_Same.mono _ _ _
      | exact galoisref23_Check.mono _ _ _
      | exact galoisref23_Few.mono _ _ _
      | exact galoisref23_With.mono _ _ _ _
      | exact permgroup_Conjugate.mono _ _ _ _
      | exact permgroup_Contains.mono _ _ _ _
      | exact permgroup_Order.mono _ _ _
      | exact permgroup_Same.mono _ _ _ _ _
      | exact LeO.none _
      | refine LeO.ite ?_ ?_
      | refine LeO.bind ?_ (fun _ => ?_)
    · intro y0 y1 y2 y3 y4 y5 y6
      unfold galoislaw23_PermgroupConjugates.j3
      repeat' first
      | (with_reducible exact ih0 _ _ _ _ _)
      | (with_reducible exact ih1 _ _ _ _ _ _ _)
      | (with_reducible exact ih2 _ _ _ _ _ _ _)
      | (with_reducible exact ih3 _ _ _ _ _ _ _)
      | (with_reducible exact ih4 _ _ _ _ _ _ _)
      | (with_reducible exact galoislaw23_awake.mono _)
      | (with_reducible exact galoisref22_Check.mono _ _)
      | (with_reducible exact galoisref22_Conjugate.mono _ _ _)
      | (with_reducible exact galoisref22_Inverse.mono _ _)
      | (with_reducible exact galoisref22_Same.mono _ _ _)
      | (with_reducible exact galoisref23_Check.mono _ _ _)
      | (with_reducible exact galoisref23_Few.mono _ _ _)
      | (with_reducible exact galoisref23_With.mono _ _ _ _)
      | (with_reducible exact permgroup_Conjugate.mono _ _ _ _)
      | (with_reducible exact permgroup_Contains.mono _ _ _ _)
      | (with_reducible exact permgroup_Order.mono _ _ _)
      | (with_reducible exact permgroup_Same.mono _ _ _ _ _)
      | (with_reducible exact LeO.refl _)
      | (with_reducible exact LeO.none _)
      | (with_reducible refine LeO.ite ?_ ?_)
      | (with_reducible refine LeO.bind ?_ (fun _ => ?_))
      | exact ih0 _ _ _ _ _
      | exact ih1 _ _ _ _ _ _ _
      | exact ih2 _ _ _ _ _ _ _
      | exact ih3 _ _ _ _ _ _ _
      | exact ih4 _ _ _ _ _ _ _
      | exact galoislaw23_awake.mono _
      | exact galoisref22_Check.mono _ _
      | exact galoisref22_Conjugate.mono _ _ _
      | exact galoisref22_Inverse.mono _ _
      | exact galoisref22_Same.mono _ _ _
      | exact galoisref23_Check.mono _ _ _
      | exact galoisref23_Few.mono _ _ _
      | exact galoisref23_With.mono _ _ _ _
      | exact permgroup_Conjugate.mono _ _ _ _
      | exact permgroup_Contains.mono _ _ _ _
      | exact permgroup_Order.mono _ _ _
      | exact permgroup_Same.mono _ _ _ _ _
      | exact LeO.none _
      | refine LeO.ite ?_ ?_
      | refine LeO.bind ?_ (fun _ => ?_)
    · intro y0 y1 y2 y3 y4 y5 y6
      unfold galoislaw23_PermgroupConjugates.j4
      repeat' first
      | (with_reducible exact ih0 _ _ _ _ _)
      | (with_reducible exact ih1 _ _ _ _ _ _ _)
      | (with_reducible exact ih2 _ _ _ _ _ _ _)
      | (with_reducible exact ih3 _ _ _ _ _ _ _)
      | (with_reducible exact ih4 _ _ _ _ _ _ _)
      | (with_reducible exact galoislaw23_awake.mono _)
      | (with_reducible exact galoisref22_Check.mono _ _)
      | (with_reducible exact galoisref22_Conjugate.mono _ _ _)
      | (with_reducible exact galoisref22_Inverse.mono _ _)
      | (with_reducible exact galoisref22_Same.mono _ _ _)
      | (with_reducible exact galoisref23_Check.mono _ _ _)
      | (with_reducible exact galoisref23_Few.mono _ _ _)
      | (with_reducible exact galoisref23_With.mono _ _ _ _)
      | (with_reducible exact permgroup_Conjugate.mono _ _ _ _)
      | (with_reducible exact permgroup_Contains.mono _ _ _ _)
      | (with_reducible exact permgroup_Order.mono _ _ _)
      | (with_reducible exact permgroup_Same.mono _ _ _ _ _)
      | (with_reducible exact LeO.refl _)
      | (with_reducible exact LeO.none _)
      | (with_reducible refine LeO.ite ?_ ?_)
      | (with_reducible refine LeO.bind ?_ (fun _ => ?_))
      | exact ih0 _ _ _ _ _
      | exact ih1 _ _ _ _ _ _ _
      | exact ih2 _ _ _ _ _ _ _
      | exact ih3 _ _ _ _ _ _ _
      | exact ih4 _ _ _ _ _ _ _
      | exact galoislaw23_awake.mono _
      | exact galoisref22_Check.mono _ _
      | exact galoisref22_Conjugate.mono _ _ _
      | exact galoisref22_Inverse.mono _ _
      | exact galoisref22_Same.mono _ _ _
      | exact galoisref23_Check.mono _ _ _
      | exact galoisref23_Few.mono _ _ _
      | exact galoisref23_With.mono _ _ _ _
      | exact permgroup_Conjugate.mono _ _ _ _
      | exact permgroup_Contains.mono _ _ _ _
      | exact permgroup_Order.mono _ _ _
      | exact permgroup_Same.mono _ _ _ _ _
      | exact LeO.none _
      | refine LeO.ite ?_ ?_
      | refine LeO.bind ?_ (fun _ => ?_)
theorem galoislaw23_PermgroupConjugates.mono : ∀ a0 a1 a2 a3 k, LeO (galoislaw23_PermgroupConjugates.f k a0 a1 a2 a3) (galoislaw23_PermgroupConjugates.f (k + 1) a0 a1 a2 a3) := by
  intro a0 a1 a2 a3 k
  obtain ⟨ih0, ih1, ih2, ih3, ih4⟩ := galoislaw23_PermgroupConjugates.mono_l k
  unfold galoislaw23_PermgroupConjugates.f
  repeat' first
      | (with_reducible exact ih0 _ _ _ _ _)
      | (with_reducible exact ih1 _ _ _ _ _ _ _)
      | (with_reducible exact ih2 _ _ _ _ _ _ _)
      | (with_reducible exact ih3 _ _ _ _ _ _ _)
      | (with_reducible exact ih4 _ _ _ _ _ _ _)
      | (with_reducible exact galoislaw23_awake.mono _)
      | (with_reducible exact galoisref22_Check.mono _ _)
      | (with_reducible exact galoisref22_Conjugate.mono _ _ _)
      | (with_reducible exact galoisref22_Inverse.mono _ _)
      | (with_reducible exact galoisref22_Same.mono _ _ _)
      | (with_reducible exact galoisref23_Check.mono _ _ _)
      | (with_reducible exact galoisref23_Few.mono _ _ _)
      | (with_reducible exact galoisref23_With.mono _ _ _ _)
      | (with_reducible exact permgroup_Conjugate.mono _ _ _ _)
      | (with_reducible exact permgroup_Contains.mono _ _ _ _)
      | (with_reducible exact permgroup_Order.mono _ _ _)
      | (with_reducible exact permgroup_Same.mono _ _ _ _ _)
      | (with_reducible exact LeO.refl _)
      | (with_reducible exact LeO.none _)
      | (with_reducible refine LeO.ite ?_ ?_)
      | (with_reducible refine LeO.bind ?_ (fun _ => ?_))
      | exact ih0 _ _ _ _ _
      | exact ih1 _ _ _ _ _ _ _
      | exact ih2 _ _ _ _ _ _ _
      | exact ih3 _ _ _ _ _ _ _
      | exact ih4 _ _ _ _ _ _ _
      | exact galoislaw23_awake.mono _
      | exact galoisref22_Check.mono _ _
      | exact galoisref22_Conjugate.mono _ _ _
      | exact galoisref22_Inverse.mono _ _
      | exact galoisref22_Same.mono _ _ _
      | exact galoisref23_Check.mono _ _ _
      | exact galoisref23_Few.mono _ _ _
      | exact galoisref23_With.mono _ _ _ _
      | exact permgroup_Conjugate.mono _ _ _ _
      | exact permgroup_Contains.mono _ _ _ _
      | exact permgroup_Order.mono _ _ _
      | exact permgroup_Same.mono _ _ _ _ _
      | exact LeO.none _
      | refine LeO.ite ?_ ?_
      | refine LeO.bind ?_ (fun _ => ?_)
def galoislaw23_PermgroupConjugates.T12 : Bool × List (List Nat × List Nat) := (true, [([], []), ([0], [0]), ([], []), ([1, 2], [1, 2]), ([3], [3]), ([], []), ([5], [5]), ([], []), ([6, 7], [6, 7]), ([8], [8]), ([], []), ([9, 10], [9, 10]), ([4, 11, 11], [4, 11]), ([12], [12])])
def galoislaw23_PermgroupConjugates.B12 : List Nat := [0, 1, 0, 7, 15, 0, 32, 0, 224, 480, 0, 2016, 4095, 8191]
theorem galoislaw23_PermgroupConjugates.tab12 : rtab .any (opsOf Try.f5 12) = galoislaw23_PermgroupConjugates.T12 := by kernel_rfl
theorem galoislaw23_PermgroupConjugates.bits12 : waitsOk galoislaw23_PermgroupConjugates.T12.2 galoislaw23_PermgroupConjugates.B12 = true := by kernel_rfl
def galoislaw23_PermgroupConjugates.T16 : Bool × List (List Nat × List Nat) := (true, [([], []), ([], []), ([1], [1]), ([0, 2, 2], [0, 2]), ([3], [3]), ([4], [4]), ([4], [4]), ([], []), ([7, 5, 3, 0, 1, 2, 3, 4, 5, 7], [5, 7]), ([6, 8, 0, 1, 2, 3, 4, 5, 6, 7, 8], [6])])
def galoislaw23_PermgroupConjugates.B16 : List Nat := [0, 0, 2, 7, 15, 31, 31, 0, 191, 511]
theorem galoislaw23_PermgroupConjugates.tab16 : rtab .any (opsOf Try.f5 16) = galoislaw23_PermgroupConjugates.T16 := by kernel_rfl
theorem galoislaw23_PermgroupConjugates.bits16 : waitsOk galoislaw23_PermgroupConjugates.T16.2 galoislaw23_PermgroupConjugates.B16 = true := by kernel_rfl
def galoislaw23_PermgroupConjugates.T23 : Bool × List (List Nat × List Nat) := (true, [([], []), ([], []), ([], []), ([1, 2], [1, 2]), ([0, 3, 3], [0, 3]), ([4], [4]), ([5], [5]), ([5], [5]), ([6, 4, 0, 1, 2, 3, 4, 5, 6], [6]), ([7, 8, 0, 1, 2, 3, 4, 5, 6, 7, 8], [7])])
def galoislaw23_PermgroupConjugates.B23 : List Nat := [0, 0, 0, 6, 15, 31, 63, 63, 127, 511]
theorem galoislaw23_PermgroupConjugates.tab23 : rtab .any (opsOf Try.f5 23) = galoislaw23_PermgroupConjugates.T23 := by kernel_rfl
theorem galoislaw23_PermgroupConjugates.bits23 : waitsOk galoislaw23_PermgroupConjugates.T23.2 galoislaw23_PermgroupConjugates.B23 = true := by kernel_rfl
set_option maxHeartbeats 8000000 in
set_option maxRecDepth 100000 in
theorem galoislaw23_PermgroupConjugates.calls (k : Nat) (a0_0 : Int) (A0_1 : Option Addr) (c0_1 : Nat) (l0_1 : List (List Int)) (A1 : Option Addr) (c1 : Nat) (l1 : List Int) (A2 : Option Addr) (c2 : Nat) (l2 : List Int) (r : Bool) (w : World) (hr0_1 : Kd.C (Kd.slice 3 (Kd.int .i64)) w A0_1 l0_1.length l0_1) (hc0_1 : l0_1.length ≤ c0_1) (hr1 : Kd.C (Kd.int .i64) w A1 l1.length l1) (hc1 : l1.length ≤ c1) (hr2 : Kd.C (Kd.int .i64) w A2 l2.length l2) (hc2 : l2.length ≤ c2) (h : galoislaw23_PermgroupConjugates.f k a0_0 l0_1 l1 l2 = some r) :
    Calls Try.prog 5 #[.agg #[.int .i64 a0_0, .slice A0_1 l0_1.length c0_1], .slice A1 l1.length c1, .slice A2 l2.length c2] w fun e w' => e = .returned (.bool r) ∧ Below w.heap.size w w' := by
 have hu24 := Try.underlying24
 have HR0_1 := Aside0.mk hr0_1
 have HC0_1 := Aside0.mk hc0_1
 clear hr0_1 hc0_1
 have HR1 := Aside0.mk hr1
 have HC1 := Aside0.mk hc1
 clear hr1 hc1
 have HR2 := Aside0.mk hr2
 have HC2 := Aside0.mk hc2
 clear hr2 hc2
 have HB := Aside0.mk (Below.refl w.heap.size w)
 have H : ((galoislaw23_awake.f k).bind fun t357 => (if t357 = true then ((galoisref23_Few.f k a0_0 l0_1).bind fun t358 => (if t358 = true then (if (l1.length : Int) > 40 then (galoislaw23_PermgroupConjugates.j0 k l1 l2 true a0_0 l0_1) else (if (l2.length : Int) > 40 then (galoislaw23_PermgroupConjugates.j0 k l1 l2 true a0_0 l0_1) else (if a0_0 > 12 then ((galoisref23_Check.f k a0_0 l0_1).bind fun t359 => (if t359 = 0 then (galoislaw23_PermgroupConjugates.j0 k l1 l2 true a0_0 l0_1) else (if (l0_1.length : Int) > 6 then ((galoisref23_Check.f k a0_0 l0_1).bind fun t360 => (galoislaw23_PermgroupConjugates.j0 k l1 l2 (t360 == 0) a0_0 l0_1)) else (galoislaw23_PermgroupConjugates.j0 k l1 l2 false a0_0 l0_1)))) else (if (l0_1.length : Int) > 6 then ((galoisref23_Check.f k a0_0 l0_1).bind fun t361 => (galoislaw23_PermgroupConjugates.j0 k l1 l2 (t361 == 0) a0_0 l0_1)) else (galoislaw23_PermgroupConjugates.j0 k l1 l2 false a0_0 l0_1))))) else (galoislaw23_PermgroupConjugates.j0 k l1 l2 true a0_0 l0_1))) else (galoislaw23_PermgroupConjugates.j0 k l1 l2 true a0_0 l0_1))) = some r := h
 clear h
 have HC4 := Aside0.mk H
 clear H
 go_enter Try.func5, Try.ntmps5
 go_upto_region 1 with (first|((with_reducible refine gate_dst (N := 3) rfl ?_);(try (refine gate_guard (by rfl) ?_;dsimp only));refine box_event ?hg (N := 3) ?hd (cs := #[.int .i64 a0_0, .slice A0_1 l0_1.length c0_1]) (t := 24) ?hr ?_;(case hd => rfl);(case hg => rfl);(case hr => first | (go_simp;done) | (go_simp;rfl));intro gb356 hg w5 hbox hb;have n0_ := Aside0.mk (below_step (by repeat (first|(with_reducible first | exact HB.out | apply below_alloc | apply pw_below_drewN | apply below_drew1) | exact HB.out)) hb);have n1_ := Aside0.mk (hbox);have n2_ := Aside0.mk ((by rw [hg];exact (below_size (by repeat (first|(with_reducible first | exact HB.out | apply below_alloc | apply pw_below_drewN | apply below_drew1) | exact HB.out))) : w.heap.size ≤ gb356));have n3_ := Aside0.mk ((by rw [hg];exact (below_size (by repeat (first|(with_reducible first | exact HB.out | apply below_alloc | apply pw_below_drewN | apply below_drew1) | exact HB.out))) : w.heap.size ≤ gb356));clear HB;have HB := n0_;have BK356 := n1_;have GW356 := n2_;have GE356 := n3_;clear n0_ n1_ n2_ n3_;clear hb hbox hg))
 (try simp only [Act.put, List.setIfInBounds_toArray, List.set_cons_zero, List.set_cons_succ])
 go_cut [57] (fun v57 wc => ∃ (kq : Nat) (x57_3 : Bool), v57 = .bool x57_3 ∧ Aside0 (galoislaw23_PermgroupConjugates.j0 kq l1 l2 x57_3 a0_0 l0_1 = some r) ∧ Aside0 (kq ≤ k) ∧ Aside0 (wc.heap[gb356]? = some (.cells #[.int .i64 a0_0, (.slice A0_1 l0_1.length c0_1)] 24 (0, 0))) ∧ Aside0 (Below w.heap.size w wc))
 case first =>
  have H := HC4.out
  clear HC4
  replace H := Option.bind_eq_some_iff.mp H
  obtain ⟨t357, A60, H⟩ := H
  replace H : (if t357 = true then ((galoisref23_Few.f k a0_0 l0_1).bind fun t358 => (if t358 = true then (if (l1.length : Int) > 40 then (galoislaw23_PermgroupConjugates.j0 k l1 l2 true a0_0 l0_1) else (if (l2.length : Int) > 40 then (galoislaw23_PermgroupConjugates.j0 k l1 l2 true a0_0 l0_1) else (if a0_0 > 12 then ((galoisref23_Check.f k a0_0 l0_1).bind fun t359 => (if t359 = 0 then (galoislaw23_PermgroupConjugates.j0 k l1 l2 true a0_0 l0_1) else (if (l0_1.length : Int) > 6 then ((galoisref23_Check.f k a0_0 l0_1).bind fun t360 => (galoislaw23_PermgroupConjugates.j0 k l1 l2 (t360 == 0) a0_0 l0_1)) else (galoislaw23_PermgroupConjugates.j0 k l1 l2 false a0_0 l0_1)))) else (if (l0_1.length : Int) > 6 then ((galoisref23_Check.f k a0_0 l0_1).bind fun t361 => (galoislaw23_PermgroupConjugates.j0 k l1 l2 (t361 == 0) a0_0 l0_1)) else (galoislaw23_PermgroupConjugates.j0 k l1 l2 false a0_0 l0_1))))) else (galoislaw23_PermgroupConjugates.j0 k l1 l2 true a0_0 l0_1))) else (galoislaw23_PermgroupConjugates.j0 k l1 l2 true a0_0 l0_1)) = some r := H
  have A6 := Aside0.mk A60
  clear A60
  by_cases c7 : t357 = true
  ·subst c7
   have H1 : ((galoisref23_Few.f k a0_0 l0_1).bind fun t358 => (if t358 = true then (if (l1.length : Int) > 40 then (galoislaw23_PermgroupConjugates.j0 k l1 l2 true a0_0 l0_1) else (if (l2.length : Int) > 40 then (galoislaw23_PermgroupConjugates.j0 k l1 l2 true a0_0 l0_1) else (if a0_0 > 12 then ((galoisref23_Check.f k a0_0 l0_1).bind fun t359 => (if t359 = 0 then (galoislaw23_PermgroupConjugates.j0 k l1 l2 true a0_0 l0_1) else (if (l0_1.length : Int) > 6 then ((galoisref23_Check.f k a0_0 l0_1).bind fun t360 => (galoislaw23_PermgroupConjugates.j0 k l1 l2 (t360 == 0) a0_0 l0_1)) else (galoislaw23_PermgroupConjugates.j0 k l1 l2 false a0_0 l0_1)))) else (if (l0_1.length : Int) > 6 then ((galoisref23_Check.f k a0_0 l0_1).bind fun t361 => (galoislaw23_PermgroupConjugates.j0 k l1 l2 (t361 == 0) a0_0 l0_1)) else (galoislaw23_PermgroupConjugates.j0 k l1 l2 false a0_0 l0_1))))) else (galoislaw23_PermgroupConjugates.j0 k l1 l2 true a0_0 l0_1))) = some r := by rw [if_pos rfl] at H;exact H
   clear H
   have H := H1
   clear H1
   replace H := Option.bind_eq_some_iff.mp H
   obtain ⟨t358, A80, H⟩ := H
   replace H : (if t358 = true then (if (l1.length : Int) > 40 then (galoislaw23_PermgroupConjugates.j0 k l1 l2 true a0_0 l0_1) else (if (l2.length : Int) > 40 then (galoislaw23_PermgroupConjugates.j0 k l1 l2 true a0_0 l0_1) else (if a0_0 > 12 then ((galoisref23_Check.f k a0_0 l0_1).bind fun t359 => (if t359 = 0 then (galoislaw23_PermgroupConjugates.j0 k l1 l2 true a0_0 l0_1) else (if (l0_1.length : Int) > 6 then ((galoisref23_Check.f k a0_0 l0_1).bind fun t360 => (galoislaw23_PermgroupConjugates.j0 k l1 l2 (t360 == 0) a0_0 l0_1)) else (galoislaw23_PermgroupConjugates.j0 k l1 l2 false a0_0 l0_1)))) else (if (l0_1.length : Int) > 6 then ((galoisref23_Check.f k a0_0 l0_1).bind fun t361 => (galoislaw23_PermgroupConjugates.j0 k l1 l2 (t361 == 0) a0_0 l0_1)) else (galoislaw23_PermgroupConjugates.j0 k l1 l2 false a0_0 l0_1))))) else (galoislaw23_PermgroupConjugates.j0 k l1 l2 true a0_0 l0_1)) = some r := H
   have A8 := Aside0.mk A80
   clear A80
   by_cases c9 : t358 = true
   ·subst c9
    have H1 : (if (l1.length : Int) > 40 then (galoislaw23_PermgroupConjugates.j0 k l1 l2 true a0_0 l0_1) else (if (l2.length : Int) > 40 then (galoislaw23_PermgroupConjugates.j0 k l1 l2 true a0_0 l0_1) else (if a0_0 > 12 then ((galoisref23_Check.f k a0_0 l0_1).bind fun t359 => (if t359 = 0 then (galoislaw23_PermgroupConjugates.j0 k l1 l2 true a0_0 l0_1) else (if (l0_1.length : Int) > 6 then ((galoisref23_Check.f k a0_0 l0_1).bind fun t360 => (galoislaw23_PermgroupConjugates.j0 k l1 l2 (t360 == 0) a0_0 l0_1)) else (galoislaw23_PermgroupConjugates.j0 k l1 l2 false a0_0 l0_1)))) else (if (l0_1.length : Int) > 6 then ((galoisref23_Check.f k a0_0 l0_1).bind fun t361 => (galoislaw23_PermgroupConjugates.j0 k l1 l2 (t361 == 0) a0_0 l0_1)) else (galoislaw23_PermgroupConjugates.j0 k l1 l2 false a0_0 l0_1))))) = some r := by rw [if_pos rfl] at H;exact H
    clear H
    have H := H1
    clear H1
    by_cases c10 : (l1.length : Int) > 40
    ·rw [if_pos c10] at H
     have c10b0 : decide (40 < (l1.length : Int)) = true := decide_eq_true c10
     have c10b1 : decide (40 < l1.length) = true := decide_eq_true (by omega)
     clear c10
     (first|rw [c10b0] | (simp only [i64_w, i32_w];rw [c10b0]) | skip)
     have H' := Aside0.mk H
     clear H
     as_aux_lemma =>
      go_wp2_with (first|((with_reducible refine gate_callee (f := 9) rfl ?_);refine goesL_ (some 20) rfl rfl Try.func9 (by kernel_rfl) rfl #[] rfl (by (try simp only [List.map_toArray, List.map_cons, List.map_nil]);first | done | rfl | (simp only [List.length_drop, List.length_take];rfl)) ?_;(with_reducible refine (galoislaw23_awake.calls k  true _ A6.out).mono ?_);rintro e w11 ⟨rfl, hb⟩;refine ⟨_, rfl, ?_⟩;have n0_ := Aside0.mk (blk_below (g := gb356) (o := .cells #[.int .i64 a0_0, .slice A0_1 l0_1.length c0_1] 24 (0, 0)) (by (with_reducible repeat (first|refine blk_drewN ?_ _ | refine blk_drew ?_ | refine blk_alloc ?_ _));exact BK356.out) hb);have n1_ := Aside0.mk (below_step (by repeat (first|(with_reducible first | exact HB.out | apply below_alloc | apply pw_below_drewN | apply below_drew1 | refine below_set ?_ GE356.out) | exact HB.out)) hb);clear BK356;clear HB;have BK356 := n0_;have HB := n1_;clear n0_ n1_;(try clear hb);(try clear hb2);(try clear hk);(try clear hi);have hcz12_0 : w11.cell? ⟨gb356, 0, none⟩ = some (.int .i64 a0_0) := (blk_cell BK356.out 0).trans rfl;have hcz12_1 : w11.cell? ⟨gb356, 1, none⟩ = some (.slice A0_1 l0_1.length c0_1) := (blk_cell BK356.out 1).trans rfl;have hfz12_0 := blk_frozen BK356.out 0;have hfz12_1 := blk_frozen BK356.out 1) | (go_at_call 31;(with_reducible refine (galoisref23_Few.calls k a0_0 _ _ l0_1 true _ ?side1 ?side2 A8.out).mono ?_);(case side1 => repeat (first|exact (Kd.C_below HR0_1.out HB.out) | (with_reducible refine Kd.C_alloc ?_ _) | (with_reducible refine Kd.C_drewN ?_ _) | (with_reducible refine Kd.C_drew ?_)));(case side2 => exact HC0_1.out);rintro e w13 ⟨rfl, hb⟩;have n0_ := Aside0.mk (blk_below (g := gb356) (o := .cells #[.int .i64 a0_0, .slice A0_1 l0_1.length c0_1] 24 (0, 0)) (by (with_reducible repeat (first|refine blk_drewN ?_ _ | refine blk_drew ?_ | refine blk_alloc ?_ _));exact BK356.out) hb);have n1_ := Aside0.mk (below_step (by repeat (first|(with_reducible first | exact HB.out | apply below_alloc | apply pw_below_drewN | apply below_drew1 | refine below_set ?_ GE356.out) | exact HB.out)) hb);clear BK356;clear HB;have BK356 := n0_;have HB := n1_;clear n0_ n1_;(try clear hb);(try clear hb2);(try clear hk);(try clear hi)))
      go_meet
      case rel => exact ⟨_, (true), (by first | rfl | (simp;done) | (simp [*];done)), H', ⟨by first | omega | exact Nat.le_refl _⟩, ⟨by (with_reducible repeat (first|refine blk_drewN ?_ _ | refine blk_drew ?_ | refine blk_alloc ?_ _));exact BK356.out⟩, ⟨by repeat (first|(with_reducible first | exact HB.out | apply below_alloc | apply pw_below_drewN | apply below_drew1 | refine below_set ?_ GE356.out) | exact HB.out)⟩⟩
    ·rw [if_neg c10] at H
     have c10b0 : decide (40 < (l1.length : Int)) = false := decide_eq_false c10
     have c10b1 : decide (40 < l1.length) = false := decide_eq_false (by omega)
     clear c10
     (first|rw [c10b0] | (simp only [i64_w, i32_w];rw [c10b0]) | skip)
     by_cases c14 : (l2.length : Int) > 40
     ·rw [if_pos c14] at H
      have c14b0 : decide (40 < (l2.length : Int)) = true := decide_eq_true c14
      have c14b1 : decide (40 < l2.length) = true := decide_eq_true (by omega)
      clear c14
      have H' := Aside0.mk H
      clear H
      as_aux_lemma =>
       go_wp2_with (first|((with_reducible refine gate_callee (f := 9) rfl ?_);refine goesL_ (some 20) rfl rfl Try.func9 (by kernel_rfl) rfl #[] rfl (by (try simp only [List.map_toArray, List.map_cons, List.map_nil]);first | done | rfl | (simp only [List.length_drop, List.length_take];rfl)) ?_;(with_reducible refine (galoislaw23_awake.calls k  true _ A6.out).mono ?_);rintro e w15 ⟨rfl, hb⟩;refine ⟨_, rfl, ?_⟩;have n0_ := Aside0.mk (blk_below (g := gb356) (o := .cells #[.int .i64 a0_0, .slice A0_1 l0_1.length c0_1] 24 (0, 0)) (by (with_reducible repeat (first|refine blk_drewN ?_ _ | refine blk_drew ?_ | refine blk_alloc ?_ _));exact BK356.out) hb);have n1_ := Aside0.mk (below_step (by repeat (first|(with_reducible first | exact HB.out | apply below_alloc | apply pw_below_drewN | apply below_drew1 | refine below_set ?_ GE356.out) | exact HB.out)) hb);clear BK356;clear HB;have BK356 := n0_;have HB := n1_;clear n0_ n1_;(try clear hb);(try clear hb2);(try clear hk);(try clear hi);have hcz16_0 : w15.cell? ⟨gb356, 0, none⟩ = some (.int .i64 a0_0) := (blk_cell BK356.out 0).trans rfl;have hcz16_1 : w15.cell? ⟨gb356, 1, none⟩ = some (.slice A0_1 l0_1.length c0_1) := (blk_cell BK356.out 1).trans rfl;have hfz16_0 := blk_frozen BK356.out 0;have hfz16_1 := blk_frozen BK356.out 1) | (go_at_call 31;(with_reducible refine (galoisref23_Few.calls k a0_0 _ _ l0_1 true _ ?side1 ?side2 A8.out).mono ?_);(case side1 => repeat (first|exact (Kd.C_below HR0_1.out HB.out) | (with_reducible refine Kd.C_alloc ?_ _) | (with_reducible refine Kd.C_drewN ?_ _) | (with_reducible refine Kd.C_drew ?_)));(case side2 => exact HC0_1.out);rintro e w17 ⟨rfl, hb⟩;have n0_ := Aside0.mk (blk_below (g := gb356) (o := .cells #[.int .i64 a0_0, .slice A0_1 l0_1.length c0_1] 24 (0, 0)) (by (with_reducible repeat (first|refine blk_drewN ?_ _ | refine blk_drew ?_ | refine blk_alloc ?_ _));exact BK356.out) hb);have n1_ := Aside0.mk (below_step (by repeat (first|(with_reducible first | exact HB.out | apply below_alloc | apply pw_below_drewN | apply below_drew1 | refine below_set ?_ GE356.out) | exact HB.out)) hb);clear BK356;clear HB;have BK356 := n0_;have HB := n1_;clear n0_ n1_;(try clear hb);(try clear hb2);(try clear hk);(try clear hi)))
       go_meet
       case rel => exact ⟨_, (true), (by first | rfl | (simp;done) | (simp [*];done)), H', ⟨by first | omega | exact Nat.le_refl _⟩, ⟨by (with_reducible repeat (first|refine blk_drewN ?_ _ | refine blk_drew ?_ | refine blk_alloc ?_ _));exact BK356.out⟩, ⟨by repeat (first|(with_reducible first | exact HB.out | apply below_alloc | apply pw_below_drewN | apply below_drew1 | refine below_set ?_ GE356.out) | exact HB.out)⟩⟩
     ·rw [if_neg c14] at H
      have c14b0 : decide (40 < (l2.length : Int)) = false := decide_eq_false c14
      have c14b1 : decide (40 < l2.length) = false := decide_eq_false (by omega)
      clear c14
      by_cases c18 : a0_0 > 12
      ·rw [if_pos c18] at H
       have c18b0 : decide (12 < a0_0) = true := decide_eq_true c18
       clear c18
       replace H := Option.bind_eq_some_iff.mp H
       obtain ⟨t359, A190, H⟩ := H
       replace H : (if t359 = 0 then (galoislaw23_PermgroupConjugates.j0 k l1 l2 true a0_0 l0_1) else (if (l0_1.length : Int) > 6 then ((galoisref23_Check.f k a0_0 l0_1).bind fun t360 => (galoislaw23_PermgroupConjugates.j0 k l1 l2 (t360 == 0) a0_0 l0_1)) else (galoislaw23_PermgroupConjugates.j0 k l1 l2 false a0_0 l0_1))) = some r := H
       have A19 := Aside0.mk A190
       clear A190
       by_cases c20 : t359 = 0
       ·rw [if_pos c20] at H
        have c20b0 : (t359 == 0) = true := beq_iff_eq.mpr c20
        have c20b1 : (t359 != 0) = false := bne_eq_false_iff_eq.mpr c20
        clear c20
        have H' := Aside0.mk H
        clear H
        as_aux_lemma =>
         go_wp2_with (first|((with_reducible refine gate_callee (f := 9) rfl ?_);refine goesL_ (some 20) rfl rfl Try.func9 (by kernel_rfl) rfl #[] rfl (by (try simp only [List.map_toArray, List.map_cons, List.map_nil]);first | done | rfl | (simp only [List.length_drop, List.length_take];rfl)) ?_;(with_reducible refine (galoislaw23_awake.calls k  true _ A6.out).mono ?_);rintro e w21 ⟨rfl, hb⟩;refine ⟨_, rfl, ?_⟩;have n0_ := Aside0.mk (blk_below (g := gb356) (o := .cells #[.int .i64 a0_0, .slice A0_1 l0_1.length c0_1] 24 (0, 0)) (by (with_reducible repeat (first|refine blk_drewN ?_ _ | refine blk_drew ?_ | refine blk_alloc ?_ _));exact BK356.out) hb);have n1_ := Aside0.mk (below_step (by repeat (first|(with_reducible first | exact HB.out | apply below_alloc | apply pw_below_drewN | apply below_drew1 | refine below_set ?_ GE356.out) | exact HB.out)) hb);clear BK356;clear HB;have BK356 := n0_;have HB := n1_;clear n0_ n1_;(try clear hb);(try clear hb2);(try clear hk);(try clear hi);have hcz22_0 : w21.cell? ⟨gb356, 0, none⟩ = some (.int .i64 a0_0) := (blk_cell BK356.out 0).trans rfl;have hcz22_1 : w21.cell? ⟨gb356, 1, none⟩ = some (.slice A0_1 l0_1.length c0_1) := (blk_cell BK356.out 1).trans rfl;have hfz22_0 := blk_frozen BK356.out 0;have hfz22_1 := blk_frozen BK356.out 1) | (go_at_call 31;(with_reducible refine (galoisref23_Few.calls k a0_0 _ _ l0_1 true _ ?side1 ?side2 A8.out).mono ?_);(case side1 => repeat (first|exact (Kd.C_below HR0_1.out HB.out) | (with_reducible refine Kd.C_alloc ?_ _) | (with_reducible refine Kd.C_drewN ?_ _) | (with_reducible refine Kd.C_drew ?_)));(case side2 => exact HC0_1.out);rintro e w23 ⟨rfl, hb⟩;have n0_ := Aside0.mk (blk_below (g := gb356) (o := .cells #[.int .i64 a0_0, .slice A0_1 l0_1.length c0_1] 24 (0, 0)) (by (with_reducible repeat (first|refine blk_drewN ?_ _ | refine blk_drew ?_ | refine blk_alloc ?_ _));exact BK356.out) hb);have n1_ := Aside0.mk (below_step (by repeat (first|(with_reducible first | exact HB.out | apply below_alloc | apply pw_below_drewN | apply below_drew1 | refine below_set ?_ GE356.out) | exact HB.out)) hb);clear BK356;clear HB;have BK356 := n0_;have HB := n1_;clear n0_ n1_;(try clear hb);(try clear hb2);(try clear hk);(try clear hi);have hcz24_0 : w23.cell? ⟨gb356, 0, none⟩ = some (.int .i64 a0_0) := (blk_cell BK356.out 0).trans rfl;have hcz24_1 : w23.cell? ⟨gb356, 1, none⟩ = some (.slice A0_1 l0_1.length c0_1) := (blk_cell BK356.out 1).trans rfl;have hfz24_0 := blk_frozen BK356.out 0;have hfz24_1 := blk_frozen BK356.out 1) | (go_at_call 11;(with_reducible refine (galoisref23_Check.calls k a0_0 _ _ l0_1 t359 _ ?side1 ?side2 A19.out).mono ?_);(case side1 => repeat (first|exact (Kd.C_below HR0_1.out HB.out) | (with_reducible refine Kd.C_alloc ?_ _) | (with_reducible refine Kd.C_drewN ?_ _) | (with_reducible refine Kd.C_drew ?_)));(case side2 => exact HC0_1.out);rintro e w25 ⟨rfl, hb⟩;have n0_ := Aside0.mk (blk_below (g := gb356) (o := .cells #[.int .i64 a0_0, .slice A0_1 l0_1.length c0_1] 24 (0, 0)) (by (with_reducible repeat (first|refine blk_drewN ?_ _ | refine blk_drew ?_ | refine blk_alloc ?_ _));exact BK356.out) hb);have n1_ := Aside0.mk (below_step (by repeat (first|(with_reducible first | exact HB.out | apply below_alloc | apply pw_below_drewN | apply below_drew1 | refine below_set ?_ GE356.out) | exact HB.out)) hb);clear BK356;clear HB;have BK356 := n0_;have HB := n1_;clear n0_ n1_;(try clear hb);(try clear hb2);(try clear hk);(try clear hi)))
         go_meet
         case rel => exact ⟨_, (true), (by first | rfl | (simp;done) | (simp [*];done)), H', ⟨by first | omega | exact Nat.le_refl _⟩, ⟨by (with_reducible repeat (first|refine blk_drewN ?_ _ | refine blk_drew ?_ | refine blk_alloc ?_ _));exact BK356.out⟩, ⟨by repeat (first|(with_reducible first | exact HB.out | apply below_alloc | apply pw_below_drewN | apply below_drew1 | refine below_set ?_ GE356.out) | exact HB.out)⟩⟩
       ·rw [if_neg c20] at H
        have c20b0 : (t359 == 0) = false := beq_eq_false_iff_ne.mpr c20
        have c20b1 : (t359 != 0) = true := bne_iff_ne.mpr c20
        by_cases c26 : (l0_1.length : Int) > 6
        ·rw [if_pos c26] at H
         have c26b0 : decide (6 < (l0_1.length : Int)) = true := decide_eq_true c26
         have c26b1 : decide (6 < l0_1.length) = true := decide_eq_true (by omega)
         clear c26
         replace H := Option.bind_eq_some_iff.mp H
         obtain ⟨t360, A270, H⟩ := H
         replace H : (galoislaw23_PermgroupConjugates.j0 k l1 l2 (t360 == 0) a0_0 l0_1) = some r := H
         have A27 := Aside0.mk A270
         clear A270
         have H' := Aside0.mk H
         clear H
         as_aux_lemma =>
          go_wp2_with (first|((with_reducible refine gate_callee (f := 9) rfl ?_);refine goesL_ (some 20) rfl rfl Try.func9 (by kernel_rfl) rfl #[] rfl (by (try simp only [List.map_toArray, List.map_cons, List.map_nil]);first | done | rfl | (simp only [List.length_drop, List.length_take];rfl)) ?_;(with_reducible refine (galoislaw23_awake.calls k  true _ A6.out).mono ?_);rintro e w28 ⟨rfl, hb⟩;refine ⟨_, rfl, ?_⟩;have n0_ := Aside0.mk (blk_below (g := gb356) (o := .cells #[.int .i64 a0_0, .slice A0_1 l0_1.length c0_1] 24 (0, 0)) (by (with_reducible repeat (first|refine blk_drewN ?_ _ | refine blk_drew ?_ | refine blk_alloc ?_ _));exact BK356.out) hb);have n1_ := Aside0.mk (below_step (by repeat (first|(with_reducible first | exact HB.out | apply below_alloc | apply pw_below_drewN | apply below_drew1 | refine below_set ?_ GE356.out) | exact HB.out)) hb);clear BK356;clear HB;have BK356 := n0_;have HB := n1_;clear n0_ n1_;(try clear hb);(try clear hb2);(try clear hk);(try clear hi);have hcz29_0 : w28.cell? ⟨gb356, 0, none⟩ = some (.int .i64 a0_0) := (blk_cell BK356.out 0).trans rfl;have hcz29_1 : w28.cell? ⟨gb356, 1, none⟩ = some (.slice A0_1 l0_1.length c0_1) := (blk_cell BK356.out 1).trans rfl;have hfz29_0 := blk_frozen BK356.out 0;have hfz29_1 := blk_frozen BK356.out 1) | (go_at_call 31;(with_reducible refine (galoisref23_Few.calls k a0_0 _ _ l0_1 true _ ?side1 ?side2 A8.out).mono ?_);(case side1 => repeat (first|exact (Kd.C_below HR0_1.out HB.out) | (with_reducible refine Kd.C_alloc ?_ _) | (with_reducible refine Kd.C_drewN ?_ _) | (with_reducible refine Kd.C_drew ?_)));(case side2 => exact HC0_1.out);rintro e w30 ⟨rfl, hb⟩;have n0_ := Aside0.mk (blk_below (g := gb356) (o := .cells #[.int .i64 a0_0, .slice A0_1 l0_1.length c0_1] 24 (0, 0)) (by (with_reducible repeat (first|refine blk_drewN ?_ _ | refine blk_drew ?_ | refine blk_alloc ?_ _));exact BK356.out) hb);have n1_ := Aside0.mk (below_step (by repeat (first|(with_reducible first | exact HB.out | apply below_alloc | apply pw_below_drewN | apply below_drew1 | refine below_set ?_ GE356.out) | exact HB.out)) hb);clear BK356;clear HB;have BK356 := n0_;have HB := n1_;clear n0_ n1_;(try clear hb);(try clear hb2);(try clear hk);(try clear hi);have hcz31_0 : w30.cell? ⟨gb356, 0, none⟩ = some (.int .i64 a0_0) := (blk_cell BK356.out 0).trans rfl;have hcz31_1 : w30.cell? ⟨gb356, 1, none⟩ = some (.slice A0_1 l0_1.length c0_1) := (blk_cell BK356.out 1).trans rfl;have hfz31_0 := blk_frozen BK356.out 0;have hfz31_1 := blk_frozen BK356.out 1) | (go_at_call 11;(with_reducible refine (galoisref23_Check.calls k a0_0 _ _ l0_1 t359 _ ?side1 ?side2 A19.out).mono ?_);(case side1 => repeat (first|exact (Kd.C_below HR0_1.out HB.out) | (with_reducible refine Kd.C_alloc ?_ _) | (with_reducible refine Kd.C_drewN ?_ _) | (with_reducible refine Kd.C_drew ?_)));(case side2 => exact HC0_1.out);rintro e w32 ⟨rfl, hb⟩;have n0_ := Aside0.mk (blk_below (g := gb356) (o := .cells #[.int .i64 a0_0, .slice A0_1 l0_1.length c0_1] 24 (0, 0)) (by (with_reducible repeat (first|refine blk_drewN ?_ _ | refine blk_drew ?_ | refine blk_alloc ?_ _));exact BK356.out) hb);have n1_ := Aside0.mk (below_step (by repeat (first|(with_reducible first | exact HB.out | apply below_alloc | apply pw_below_drewN | apply below_drew1 | refine below_set ?_ GE356.out) | exact HB.out)) hb);clear BK356;clear HB;have BK356 := n0_;have HB := n1_;clear n0_ n1_;(try clear hb);(try clear hb2);(try clear hk);(try clear hi);have hcz33_0 : w32.cell? ⟨gb356, 0, none⟩ = some (.int .i64 a0_0) := (blk_cell BK356.out 0).trans rfl;have hcz33_1 : w32.cell? ⟨gb356, 1, none⟩ = some (.slice A0_1 l0_1.length c0_1) := (blk_cell BK356.out 1).trans rfl;have hfz33_0 := blk_frozen BK356.out 0;have hfz33_1 := blk_frozen BK356.out 1) | (go_at_call 11;(with_reducible refine (galoisref23_Check.calls k a0_0 _ _ l0_1 t360 _ ?side1 ?side2 A27.out).mono ?_);(case side1 => repeat (first|exact (Kd.C_below HR0_1.out HB.out) | (with_reducible refine Kd.C_alloc ?_ _) | (with_reducible refine Kd.C_drewN ?_ _) | (with_reducible refine Kd.C_drew ?_)));(case side2 => exact HC0_1.out);rintro e w34 ⟨rfl, hb⟩;have n0_ := Aside0.mk (blk_below (g := gb356) (o := .cells #[.int .i64 a0_0, .slice A0_1 l0_1.length c0_1] 24 (0, 0)) (by (with_reducible repeat (first|refine blk_drewN ?_ _ | refine blk_drew ?_ | refine blk_alloc ?_ _));exact BK356.out) hb);have n1_ := Aside0.mk (below_step (by repeat (first|(with_reducible first | exact HB.out | apply below_alloc | apply pw_below_drewN | apply below_drew1 | refine below_set ?_ GE356.out) | exact HB.out)) hb);clear BK356;clear HB;have BK356 := n0_;have HB := n1_;clear n0_ n1_;(try clear hb);(try clear hb2);(try clear hk);(try clear hi)))
          go_meet
          case rel => exact ⟨_, ((t360 == 0)), (by first | rfl | (simp;done) | (simp [*];done) | (rw [show (t360 == 0) = false from by rw [← Option.some.inj (A19.out.symm.trans A27.out)];exact c20b0];done)), H', ⟨by first | omega | exact Nat.le_refl _⟩, ⟨by (with_reducible repeat (first|refine blk_drewN ?_ _ | refine blk_drew ?_ | refine blk_alloc ?_ _));exact BK356.out⟩, ⟨by repeat (first|(with_reducible first | exact HB.out | apply below_alloc | apply pw_below_drewN | apply below_drew1 | refine below_set ?_ GE356.out) | exact HB.out)⟩⟩
        ·rw [if_neg c26] at H
         have c26b0 : decide (6 < (l0_1.length : Int)) = false := decide_eq_false c26
         have c26b1 : decide (6 < l0_1.length) = false := decide_eq_false (by omega)
         clear c26
         have H' := Aside0.mk H
         clear H
         as_aux_lemma =>
          go_wp2_with (first|((with_reducible refine gate_callee (f := 9) rfl ?_);refine goesL_ (some 20) rfl rfl Try.func9 (by kernel_rfl) rfl #[] rfl (by (try simp only [List.map_toArray, List.map_cons, List.map_nil]);first | done | rfl | (simp only [List.length_drop, List.length_take];rfl)) ?_;(with_reducible refine (galoislaw23_awake.calls k  true _ A6.out).mono ?_);rintro e w35 ⟨rfl, hb⟩;refine ⟨_, rfl, ?_⟩;have n0_ := Aside0.mk (blk_below (g := gb356) (o := .cells #[.int .i64 a0_0, .slice A0_1 l0_1.length c0_1] 24 (0, 0)) (by (with_reducible repeat (first|refine blk_drewN ?_ _ | refine blk_drew ?_ | refine blk_alloc ?_ _));exact BK356.out) hb);have n1_ := Aside0.mk (below_step (by repeat (first|(with_reducible first | exact HB.out | apply below_alloc | apply pw_below_drewN | apply below_drew1 | refine below_set ?_ GE356.out) | exact HB.out)) hb);clear BK356;clear HB;have BK356 := n0_;have HB := n1_;clear n0_ n1_;(try clear hb);(try clear hb2);(try clear hk);(try clear hi);have hcz36_0 : w35.cell? ⟨gb356, 0, none⟩ = some (.int .i64 a0_0) := (blk_cell BK356.out 0).trans rfl;have hcz36_1 : w35.cell? ⟨gb356, 1, none⟩ = some (.slice A0_1 l0_1.length c0_1) := (blk_cell BK356.out 1).trans rfl;have hfz36_0 := blk_frozen BK356.out 0;have hfz36_1 := blk_frozen BK356.out 1) | (go_at_call 31;(with_reducible refine (galoisref23_Few.calls k a0_0 _ _ l0_1 true _ ?side1 ?side2 A8.out).mono ?_);(case side1 => repeat (first|exact (Kd.C_below HR0_1.out HB.out) | (with_reducible refine Kd.C_alloc ?_ _) | (with_reducible refine Kd.C_drewN ?_ _) | (with_reducible refine Kd.C_drew ?_)));(case side2 => exact HC0_1.out);rintro e w37 ⟨rfl, hb⟩;have n0_ := Aside0.mk (blk_below (g := gb356) (o := .cells #[.int .i64 a0_0, .slice A0_1 l0_1.length c0_1] 24 (0, 0)) (by (with_reducible repeat (first|refine blk_drewN ?_ _ | refine blk_drew ?_ | refine blk_alloc ?_ _));exact BK356.out) hb);have n1_ := Aside0.mk (below_step (by repeat (first|(with_reducible first | exact HB.out | apply below_alloc | apply pw_below_drewN | apply below_drew1 | refine below_set ?_ GE356.out) | exact HB.out)) hb);clear BK356;clear HB;have BK356 := n0_;have HB := n1_;clear n0_ n1_;(try clear hb);(try clear hb2);(try clear hk);(try clear hi);have hcz38_0 : w37.cell? ⟨gb356, 0, none⟩ = some (.int .i64 a0_0) := (blk_cell BK356.out 0).trans rfl;have hcz38_1 : w37.cell? ⟨gb356, 1, none⟩ = some (.slice A0_1 l0_1.length c0_1) := (blk_cell BK356.out 1).trans rfl;have hfz38_0 := blk_frozen BK356.out 0;have hfz38_1 := blk_frozen BK356.out 1) | (go_at_call 11;(with_reducible refine (galoisref23_Check.calls k a0_0 _ _ l0_1 t359 _ ?side1 ?side2 A19.out).mono ?_);(case side1 => repeat (first|exact (Kd.C_below HR0_1.out HB.out) | (with_reducible refine Kd.C_alloc ?_ _) | (with_reducible refine Kd.C_drewN ?_ _) | (with_reducible refine Kd.C_drew ?_)));(case side2 => exact HC0_1.out);rintro e w39 ⟨rfl, hb⟩;have n0_ := Aside0.mk (blk_below (g := gb356) (o := .cells #[.int .i64 a0_0, .slice A0_1 l0_1.length c0_1] 24 (0, 0)) (by (with_reducible repeat (first|refine blk_drewN ?_ _ | refine blk_drew ?_ | refine blk_alloc ?_ _));exact BK356.out) hb);have n1_ := Aside0.mk (below_step (by repeat (first|(with_reducible first | exact HB.out | apply below_alloc | apply pw_below_drewN | apply below_drew1 | refine below_set ?_ GE356.out) | exact HB.out)) hb);clear BK356;clear HB;have BK356 := n0_;have HB := n1_;clear n0_ n1_;(try clear hb);(try clear hb2);(try clear hk);(try clear hi);have hcz40_0 : w39.cell? ⟨gb356, 0, none⟩ = some (.int .i64 a0_0) := (blk_cell BK356.out 0).trans rfl;have hcz40_1 : w39.cell? ⟨gb356, 1, none⟩ = some (.slice A0_1 l0_1.length c0_1) := (blk_cell BK356.out 1).trans rfl;have hfz40_0 := blk_frozen BK356.out 0;have hfz40_1 := blk_frozen BK356.out 1))
          go_meet
          case rel => exact ⟨_, (false), (by first | rfl | (simp;done) | (simp [*];done)), H', ⟨by first | omega | exact Nat.le_refl _⟩, ⟨by (with_reducible repeat (first|refine blk_drewN ?_ _ | refine blk_drew ?_ | refine blk_alloc ?_ _));exact BK356.out⟩, ⟨by repeat (first|(with_reducible first | exact HB.out | apply below_alloc | apply pw_below_drewN | apply below_drew1 | refine below_set ?_ GE356.out) | exact HB.out)⟩⟩
      ·rw [if_neg c18] at H
       have c18b0 : decide (12 < a0_0) = false := decide_eq_false c18
       clear c18
       by_cases c41 : (l0_1.length : Int) > 6
       ·rw [if_pos c41] at H
        have c41b0 : decide (6 < (l0_1.length : Int)) = true := decide_eq_true c41
        have c41b1 : decide (6 < l0_1.length) = true := decide_eq_true (by omega)
        clear c41
        replace H := Option.bind_eq_some_iff.mp H
        obtain ⟨t361, A420, H⟩ := H
        replace H : (galoislaw23_PermgroupConjugates.j0 k l1 l2 (t361 == 0) a0_0 l0_1) = some r := H
        have A42 := Aside0.mk A420
        clear A420
        have H' := Aside0.mk H
        clear H
        as_aux_lemma =>
         go_wp2_with (first|((with_reducible refine gate_callee (f := 9) rfl ?_);refine goesL_ (some 20) rfl rfl Try.func9 (by kernel_rfl) rfl #[] rfl (by (try simp only [List.map_toArray, List.map_cons, List.map_nil]);first | done | rfl | (simp only [List.length_drop, List.length_take];rfl)) ?_;(with_reducible refine (galoislaw23_awake.calls k  true _ A6.out).mono ?_);rintro e w43 ⟨rfl, hb⟩;refine ⟨_, rfl, ?_⟩;have n0_ := Aside0.mk (blk_below (g := gb356) (o := .cells #[.int .i64 a0_0, .slice A0_1 l0_1.length c0_1] 24 (0, 0)) (by (with_reducible repeat (first|refine blk_drewN ?_ _ | refine blk_drew ?_ | refine blk_alloc ?_ _));exact BK356.out) hb);have n1_ := Aside0.mk (below_step (by repeat (first|(with_reducible first | exact HB.out | apply below_alloc | apply pw_below_drewN | apply below_drew1 | refine below_set ?_ GE356.out) | exact HB.out)) hb);clear BK356;clear HB;have BK356 := n0_;have HB := n1_;clear n0_ n1_;(try clear hb);(try clear hb2);(try clear hk);(try clear hi);have hcz44_0 : w43.cell? ⟨gb356, 0, none⟩ = some (.int .i64 a0_0) := (blk_cell BK356.out 0).trans rfl;have hcz44_1 : w43.cell? ⟨gb356, 1, none⟩ = some (.slice A0_1 l0_1.length c0_1) := (blk_cell BK356.out 1).trans rfl;have hfz44_0 := blk_frozen BK356.out 0;have hfz44_1 := blk_frozen BK356.out 1) | (go_at_call 31;(with_reducible refine (galoisref23_Few.calls k a0_0 _ _ l0_1 true _ ?side1 ?side2 A8.out).mono ?_);(case side1 => repeat (first|exact (Kd.C_below HR0_1.out HB.out) | (with_reducible refine Kd.C_alloc ?_ _) | (with_reducible refine Kd.C_drewN ?_ _) | (with_reducible refine Kd.C_drew ?_)));(case side2 => exact HC0_1.out);rintro e w45 ⟨rfl, hb⟩;have n0_ := Aside0.mk (blk_below (g := gb356) (o := .cells #[.int .i64 a0_0, .slice A0_1 l0_1.length c0_1] 24 (0, 0)) (by (with_reducible repeat (first|refine blk_drewN ?_ _ | refine blk_drew ?_ | refine blk_alloc ?_ _));exact BK356.out) hb);have n1_ := Aside0.mk (below_step (by repeat (first|(with_reducible first | exact HB.out | apply below_alloc | apply pw_below_drewN | apply below_drew1 | refine below_set ?_ GE356.out) | exact HB.out)) hb);clear BK356;clear HB;have BK356 := n0_;have HB := n1_;clear n0_ n1_;(try clear hb);(try clear hb2);(try clear hk);(try clear hi);have hcz46_0 : w45.cell? ⟨gb356, 0, none⟩ = some (.int .i64 a0_0) := (blk_cell BK356.out 0).trans rfl;have hcz46_1 : w45.cell? ⟨gb356, 1, none⟩ = some (.slice A0_1 l0_1.length c0_1) := (blk_cell BK356.out 1).trans rfl;have hfz46_0 := blk_frozen BK356.out 0;have hfz46_1 := blk_frozen BK356.out 1) | (go_at_call 11;(with_reducible refine (galoisref23_Check.calls k a0_0 _ _ l0_1 t361 _ ?side1 ?side2 A42.out).mono ?_);(case side1 => repeat (first|exact (Kd.C_below HR0_1.out HB.out) | (with_reducible refine Kd.C_alloc ?_ _) | (with_reducible refine Kd.C_drewN ?_ _) | (with_reducible refine Kd.C_drew ?_)));(case side2 => exact HC0_1.out);rintro e w47 ⟨rfl, hb⟩;have n0_ := Aside0.mk (blk_below (g := gb356) (o := .cells #[.int .i64 a0_0, .slice A0_1 l0_1.length c0_1] 24 (0, 0)) (by (with_reducible repeat (first|refine blk_drewN ?_ _ | refine blk_drew ?_ | refine blk_alloc ?_ _));exact BK356.out) hb);have n1_ := Aside0.mk (below_step (by repeat (first|(with_reducible first | exact HB.out | apply below_alloc | apply pw_below_drewN | apply below_drew1 | refine below_set ?_ GE356.out) | exact HB.out)) hb);clear BK356;clear HB;have BK356 := n0_;have HB := n1_;clear n0_ n1_;(try clear hb);(try clear hb2);(try clear hk);(try clear hi)))
         go_meet
         case rel => exact ⟨_, ((t361 == 0)), (by first | rfl | (simp;done) | (simp [*];done) | (rw [show (t361 == 0) = false from by rw [← Option.some.inj (A19.out.symm.trans A42.out)];exact c20b0];done)), H', ⟨by first | omega | exact Nat.le_refl _⟩, ⟨by (with_reducible repeat (first|refine blk_drewN ?_ _ | refine blk_drew ?_ | refine blk_alloc ?_ _));exact BK356.out⟩, ⟨by repeat (first|(with_reducible first | exact HB.out | apply below_alloc | apply pw_below_drewN | apply below_drew1 | refine below_set ?_ GE356.out) | exact HB.out)⟩⟩
       ·rw [if_neg c41] at H
        have c41b0 : decide (6 < (l0_1.length : Int)) = false := decide_eq_false c41
        have c41b1 : decide (6 < l0_1.length) = false := decide_eq_false (by omega)
        clear c41
        have H' := Aside0.mk H
        clear H
        as_aux_lemma =>
         go_wp2_with (first|((with_reducible refine gate_callee (f := 9) rfl ?_);refine goesL_ (some 20) rfl rfl Try.func9 (by kernel_rfl) rfl #[] rfl (by (try simp only [List.map_toArray, List.map_cons, List.map_nil]);first | done | rfl | (simp only [List.length_drop, List.length_take];rfl)) ?_;(with_reducible refine (galoislaw23_awake.calls k  true _ A6.out).mono ?_);rintro e w48 ⟨rfl, hb⟩;refine ⟨_, rfl, ?_⟩;have n0_ := Aside0.mk (blk_below (g := gb356) (o := .cells #[.int .i64 a0_0, .slice A0_1 l0_1.length c0_1] 24 (0, 0)) (by (with_reducible repeat (first|refine blk_drewN ?_ _ | refine blk_drew ?_ | refine blk_alloc ?_ _));exact BK356.out) hb);have n1_ := Aside0.mk (below_step (by repeat (first|(with_reducible first | exact HB.out | apply below_alloc | apply pw_below_drewN | apply below_drew1 | refine below_set ?_ GE356.out) | exact HB.out)) hb);clear BK356;clear HB;have BK356 := n0_;have HB := n1_;clear n0_ n1_;(try clear hb);(try clear hb2);(try clear hk);(try clear hi);have hcz49_0 : w48.cell? ⟨gb356, 0, none⟩ = some (.int .i64 a0_0) := (blk_cell BK356.out 0).trans rfl;have hcz49_1 : w48.cell? ⟨gb356, 1, none⟩ = some (.slice A0_1 l0_1.length c0_1) := (blk_cell BK356.out 1).trans rfl;have hfz49_0 := blk_frozen BK356.out 0;have hfz49_1 := blk_frozen BK356.out 1) | (go_at_call 31;(with_reducible refine (galoisref23_Few.calls k a0_0 _ _ l0_1 true _ ?side1 ?side2 A8.out).mono ?_);(case side1 => repeat (first|exact (Kd.C_below HR0_1.out HB.out) | (with_reducible refine Kd.C_alloc ?_ _) | (with_reducible refine Kd.C_drewN ?_ _) | (with_reducible refine Kd.C_drew ?_)));(case side2 => exact HC0_1.out);rintro e w50 ⟨rfl, hb⟩;have n0_ := Aside0.mk (blk_below (g := gb356) (o := .cells #[.int .i64 a0_0, .slice A0_1 l0_1.length c0_1] 24 (0, 0)) (by (with_reducible repeat (first|refine blk_drewN ?_ _ | refine blk_drew ?_ | refine blk_alloc ?_ _));exact BK356.out) hb);have n1_ := Aside0.mk (below_step (by repeat (first|(with_reducible first | exact HB.out | apply below_alloc | apply pw_below_drewN | apply below_drew1 | refine below_set ?_ GE356.out) | exact HB.out)) hb);clear BK356;clear HB;have BK356 := n0_;have HB := n1_;clear n0_ n1_;(try clear hb);(try clear hb2);(try clear hk);(try clear hi);have hcz51_0 : w50.cell? ⟨gb356, 0, none⟩ = some (.int .i64 a0_0) := (blk_cell BK356.out 0).trans rfl;have hcz51_1 : w50.cell? ⟨gb356, 1, none⟩ = some (.slice A0_1 l0_1.length c0_1) := (blk_cell BK356.out 1).trans rfl;have hfz51_0 := blk_frozen BK356.out 0;have hfz51_1 := blk_frozen BK356.out 1))
         go_meet
         case rel => exact ⟨_, (false), (by first | rfl | (simp;done) | (simp [*];done)), H', ⟨by first | omega | exact Nat.le_refl _⟩, ⟨by (with_reducible repeat (first|refine blk_drewN ?_ _ | refine blk_drew ?_ | refine blk_alloc ?_ _));exact BK356.out⟩, ⟨by repeat (first|(with_reducible first | exact HB.out | apply below_alloc | apply pw_below_drewN | apply below_drew1 | refine below_set ?_ GE356.out) | exact HB.out)⟩⟩
   ·replace c9 := Bool.eq_false_iff.mpr c9
    subst c9
    have H1 : (galoislaw23_PermgroupConjugates.j0 k l1 l2 true a0_0 l0_1) = some r := by rw [if_neg (show ¬ (false = true) by decide)] at H;exact H
    clear H
    have H := H1
    clear H1
    have H' := Aside0.mk H
    clear H
    as_aux_lemma =>
     go_wp2_with (first|((with_reducible refine gate_callee (f := 9) rfl ?_);refine goesL_ (some 20) rfl rfl Try.func9 (by kernel_rfl) rfl #[] rfl (by (try simp only [List.map_toArray, List.map_cons, List.map_nil]);first | done | rfl | (simp only [List.length_drop, List.length_take];rfl)) ?_;(with_reducible refine (galoislaw23_awake.calls k  true _ A6.out).mono ?_);rintro e w52 ⟨rfl, hb⟩;refine ⟨_, rfl, ?_⟩;have n0_ := Aside0.mk (blk_below (g := gb356) (o := .cells #[.int .i64 a0_0, .slice A0_1 l0_1.length c0_1] 24 (0, 0)) (by (with_reducible repeat (first|refine blk_drewN ?_ _ | refine blk_drew ?_ | refine blk_alloc ?_ _));exact BK356.out) hb);have n1_ := Aside0.mk (below_step (by repeat (first|(with_reducible first | exact HB.out | apply below_alloc | apply pw_below_drewN | apply below_drew1 | refine below_set ?_ GE356.out) | exact HB.out)) hb);clear BK356;clear HB;have BK356 := n0_;have HB := n1_;clear n0_ n1_;(try clear hb);(try clear hb2);(try clear hk);(try clear hi);have hcz53_0 : w52.cell? ⟨gb356, 0, none⟩ = some (.int .i64 a0_0) := (blk_cell BK356.out 0).trans rfl;have hcz53_1 : w52.cell? ⟨gb356, 1, none⟩ = some (.slice A0_1 l0_1.length c0_1) := (blk_cell BK356.out 1).trans rfl;have hfz53_0 := blk_frozen BK356.out 0;have hfz53_1 := blk_frozen BK356.out 1) | (go_at_call 31;(with_reducible refine (galoisref23_Few.calls k a0_0 _ _ l0_1 false _ ?side1 ?side2 A8.out).mono ?_);(case side1 => repeat (first|exact (Kd.C_below HR0_1.out HB.out) | (with_reducible refine Kd.C_alloc ?_ _) | (with_reducible refine Kd.C_drewN ?_ _) | (with_reducible refine Kd.C_drew ?_)));(case side2 => exact HC0_1.out);rintro e w54 ⟨rfl, hb⟩;have n0_ := Aside0.mk (blk_below (g := gb356) (o := .cells #[.int .i64 a0_0, .slice A0_1 l0_1.length c0_1] 24 (0, 0)) (by (with_reducible repeat (first|refine blk_drewN ?_ _ | refine blk_drew ?_ | refine blk_alloc ?_ _));exact BK356.out) hb);have n1_ := Aside0.mk (below_step (by repeat (first|(with_reducible first | exact HB.out | apply below_alloc | apply pw_below_drewN | apply below_drew1 | refine below_set ?_ GE356.out) | exact HB.out)) hb);clear BK356;clear HB;have BK356 := n0_;have HB := n1_;clear n0_ n1_;(try clear hb);(try clear hb2);(try clear hk);(try clear hi)))
     go_meet
     case rel => exact ⟨_, (true), (by first | rfl | (simp;done) | (simp [*];done)), H', ⟨by first | omega | exact Nat.le_refl _⟩, ⟨by (with_reducible repeat (first|refine blk_drewN ?_ _ | refine blk_drew ?_ | refine blk_alloc ?_ _));exact BK356.out⟩, ⟨by repeat (first|(with_reducible first | exact HB.out | apply below_alloc | apply pw_below_drewN | apply below_drew1 | refine below_set ?_ GE356.out) | exact HB.out)⟩⟩
  ·replace c7 := Bool.eq_false_iff.mpr c7
   subst c7
   have H1 : (galoislaw23_PermgroupConjugates.j0 k l1 l2 true a0_0 l0_1) = some r := by rw [if_neg (show ¬ (false = true) by decide)] at H;exact H
   clear H
   have H := H1
   clear H1
   have H' := Aside0.mk H
   clear H
   as_aux_lemma =>
    go_wp2_with (first|((with_reducible refine gate_callee (f := 9) rfl ?_);refine goesL_ (some 20) rfl rfl Try.func9 (by kernel_rfl) rfl #[] rfl (by (try simp only [List.map_toArray, List.map_cons, List.map_nil]);first | done | rfl | (simp only [List.length_drop, List.length_take];rfl)) ?_;(with_reducible refine (galoislaw23_awake.calls k  false _ A6.out).mono ?_);rintro e w55 ⟨rfl, hb⟩;refine ⟨_, rfl, ?_⟩;have n0_ := Aside0.mk (blk_below (g := gb356) (o := .cells #[.int .i64 a0_0, .slice A0_1 l0_1.length c0_1] 24 (0, 0)) (by (with_reducible repeat (first|refine blk_drewN ?_ _ | refine blk_drew ?_ | refine blk_alloc ?_ _));exact BK356.out) hb);have n1_ := Aside0.mk (below_step (by repeat (first|(with_reducible first | exact HB.out | apply below_alloc | apply pw_below_drewN | apply below_drew1 | refine below_set ?_ GE356.out) | exact HB.out)) hb);clear BK356;clear HB;have BK356 := n0_;have HB := n1_;clear n0_ n1_;(try clear hb);(try clear hb2);(try clear hk);(try clear hi)))
    go_meet
    case rel => exact ⟨_, (true), (by first | rfl | (simp;done) | (simp [*];done)), H', ⟨by first | omega | exact Nat.le_refl _⟩, ⟨by (with_reducible repeat (first|refine blk_drewN ?_ _ | refine blk_drew ?_ | refine blk_alloc ?_ _));exact BK356.out⟩, ⟨by repeat (first|(with_reducible first | exact HB.out | apply below_alloc | apply pw_below_drewN | apply below_drew1 | refine below_set ?_ GE356.out) | exact HB.out)⟩⟩
 case rest =>
  clear HC4
  try clear c1
  try clear c2
  try clear p2
  try clear c4
  try clear c5
  try clear c7
  try clear c9
  try clear c10
  try clear c10b0
  try clear c10b1
  try clear c14
  try clear c14b0
  try clear c14b1
  try clear c18
  try clear c18b0
  try clear c20
  try clear c20b0
  try clear c20b1
  try clear c26
  try clear c26b0
  try clear c26b1
  try clear c41
  try clear c41b0
  try clear c41b1
  try clear hcz12_0
  try clear hcz12_1
  try clear hcz16_0
  try clear hcz16_1
  try clear hcz22_0
  try clear hcz22_1
  try clear hcz24_0
  try clear hcz24_1
  try clear hcz29_0
  try clear hcz29_1
  try clear hcz31_0
  try clear hcz31_1
  try clear hcz33_0
  try clear hcz33_1
  try clear hcz36_0
  try clear hcz36_1
  try clear hcz38_0
  try clear hcz38_1
  try clear hcz40_0
  try clear hcz40_1
  try clear hcz44_0
  try clear hcz44_1
  try clear hcz46_0
  try clear hcz46_1
  try clear hcz49_0
  try clear hcz49_1
  try clear hcz51_0
  try clear hcz51_1
  try clear hcz53_0
  try clear hcz53_1
  try clear hfz12_0
  try clear hfz12_1
  try clear hfz16_0
  try clear hfz16_1
  try clear hfz22_0
  try clear hfz22_1
  try clear hfz24_0
  try clear hfz24_1
  try clear hfz29_0
  try clear hfz29_1
  try clear hfz31_0
  try clear hfz31_1
  try clear hfz33_0
  try clear hfz33_1
  try clear hfz36_0
  try clear hfz36_1
  try clear hfz38_0
  try clear hfz38_1
  try clear hfz40_0
  try clear hfz40_1
  try clear hfz44_0
  try clear hfz44_1
  try clear hfz46_0
  try clear hfz46_1
  try clear hfz49_0
  try clear hfz49_1
  try clear hfz51_0
  try clear hfz51_1
  try clear hfz53_0
  try clear hfz53_1
  obtain ⟨kq, x57_3, rfl, HA, HJ3, BK356, HB⟩ := hcut
  cases kq with
  | zero => exact absurd HA.out (by simp [galoislaw23_PermgroupConjugates.j0])
  | succ kj3 =>
   have H := HA.out
   clear HA
   simp only [galoislaw23_PermgroupConjugates.j0] at H
   by_cases c56 : x57_3 = true
   ·subst c56
    have H1 : ((galoislaw23_awake.f kj3).bind fun t362 => (some t362)) = some r := by rw [if_pos rfl] at H;exact H
    clear H
    have H := H1
    clear H1
    replace H := Option.bind_eq_some_iff.mp H
    obtain ⟨t362, A570, H⟩ := H
    replace H : (some t362) = some r := H
    have A57 := Aside0.mk A570
    clear A570
    obtain rfl := Option.some.inj H
    as_aux_lemma =>
     go_wp2_with (first|((with_reducible refine gate_callee (f := 9) rfl ?_);refine goesL_ (some 58) rfl rfl Try.func9 (by kernel_rfl) rfl #[] rfl (by (try simp only [List.map_toArray, List.map_cons, List.map_nil]);first | done | rfl | (simp only [List.length_drop, List.length_take];rfl)) ?_;(with_reducible refine (galoislaw23_awake.calls kj3  t362 _ A57.out).mono ?_);rintro e w58 ⟨rfl, hb⟩;refine ⟨_, rfl, ?_⟩;have n0_ := Aside0.mk (blk_below (g := gb356) (o := .cells #[.int .i64 a0_0, .slice A0_1 l0_1.length c0_1] 24 (0, 0)) (by (with_reducible repeat (first|refine blk_drewN ?_ _ | refine blk_drew ?_ | refine blk_alloc ?_ _));exact BK356.out) hb);have n1_ := Aside0.mk (below_step (by repeat (first|(with_reducible first | exact HB.out | apply below_alloc | apply pw_below_drewN | apply below_drew1 | refine below_set ?_ GE356.out) | exact HB.out)) hb);clear BK356;clear HB;have BK356 := n0_;have HB := n1_;clear n0_ n1_;(try clear hb);(try clear hb2);(try clear hk);(try clear hi)))
     go_ret
     exact ⟨by first | rfl | (simp [errW_none, errW_some] <;> rfl) | (simp [*, errW_none, errW_some] <;> rfl), by repeat (first|(with_reducible first | exact HB.out | apply below_alloc | apply pw_below_drewN | apply below_drew1 | refine below_set ?_ GE356.out) | exact HB.out)⟩
   ·replace c56 := Bool.eq_false_iff.mpr c56
    subst c56
    have H1 : ((permgroup_Conjugate.f kj3 a0_0 l0_1 l1).bind fun bt363 => ((galoisref23_With.f kj3 a0_0 l0_1 l1).bind fun t369 => (if t369 = 0 then (if bt363.2.2 = 0 then (if bt363.1 = a0_0 then (galoislaw23_PermgroupConjugates.j1 kj3 l1 l2 ((bt363.2.1.length : Int) != (l0_1.length : Int)) a0_0 l0_1 bt363.1 bt363.2.1) else (galoislaw23_PermgroupConjugates.j1 kj3 l1 l2 true a0_0 l0_1 bt363.1 bt363.2.1)) else (galoislaw23_PermgroupConjugates.j1 kj3 l1 l2 true a0_0 l0_1 bt363.1 bt363.2.1)) else ((galoislaw23_none.f bt363.1 bt363.2.1).bind fun t370 => (if t370 = true then (some (bt363.2.2 == t369)) else (some false)))))) = some r := by rw [if_neg (show ¬ (false = true) by decide)] at H;exact H
    clear H
    have H := H1
    clear H1
    replace H := Option.bind_eq_some_iff.mp H
    obtain ⟨⟨t363, t364, t367⟩, A590, H⟩ := H
    replace H : ((galoisref23_With.f kj3 a0_0 l0_1 l1).bind fun t369 => (if t369 = 0 then (if t367 = 0 then (if t363 = a0_0 then (galoislaw23_PermgroupConjugates.j1 kj3 l1 l2 ((t364.length : Int) != (l0_1.length : Int)) a0_0 l0_1 t363 t364) else (galoislaw23_PermgroupConjugates.j1 kj3 l1 l2 true a0_0 l0_1 t363 t364)) else (galoislaw23_PermgroupConjugates.j1 kj3 l1 l2 true a0_0 l0_1 t363 t364)) else ((galoislaw23_none.f t363 t364).bind fun t370 => (if t370 = true then (some (t367 == t369)) else (some false))))) = some r := H
    have A59 := Aside0.mk A590
    clear A590
    replace H := Option.bind_eq_some_iff.mp H
    obtain ⟨t369, A600, H⟩ := H
    replace H : (if t369 = 0 then (if t367 = 0 then (if t363 = a0_0 then (galoislaw23_PermgroupConjugates.j1 kj3 l1 l2 ((t364.length : Int) != (l0_1.length : Int)) a0_0 l0_1 t363 t364) else (galoislaw23_PermgroupConjugates.j1 kj3 l1 l2 true a0_0 l0_1 t363 t364)) else (galoislaw23_PermgroupConjugates.j1 kj3 l1 l2 true a0_0 l0_1 t363 t364)) else ((galoislaw23_none.f t363 t364).bind fun t370 => (if t370 = true then (some (t367 == t369)) else (some false)))) = some r := H
    have A60 := Aside0.mk A600
    clear A600
    by_cases c61 : t369 = 0
    ·rw [if_pos c61] at H
     have c61b0 : (t369 == 0) = true := beq_iff_eq.mpr c61
     have c61b1 : (t369 != 0) = false := bne_eq_false_iff_eq.mpr c61
     clear c61
     have HC62 := Aside0.mk H
     clear H
     have hcz63_0 : wc.cell? ⟨gb356, 0, none⟩ = some (.int .i64 a0_0) := (blk_cell BK356.out 0).trans rfl
     have hcz63_1 : wc.cell? ⟨gb356, 1, none⟩ = some (.slice A0_1 l0_1.length c0_1) := (blk_cell BK356.out 1).trans rfl
     have hfz63_0 := blk_frozen BK356.out 0
     have hfz63_1 := blk_frozen BK356.out 1
     go_upto_region 7 with (first|((with_reducible refine gate_callee (f := 32) rfl ?_);refine goesL_ (some 62) rfl rfl Try.func32 (by kernel_rfl) rfl #[.agg #[.int .i64 a0_0, .slice A0_1 l0_1.length c0_1], .slice A1 l1.length c1] rfl (by (try simp only [List.map_toArray, List.map_cons, List.map_nil]);first | done | rfl | (simp only [List.length_drop, List.length_take];rfl)) ?_;(with_reducible refine (permgroup_Conjugate.calls kj3 a0_0 _ _ l0_1 _ _ l1 t363 t364 t367 _ ?side1 ?side2 ?side3 ?side4 A59.out).mono ?_);(case side1 => repeat (first|exact (Kd.C_below HR0_1.out HB.out) | (with_reducible refine Kd.C_alloc ?_ _) | (with_reducible refine Kd.C_drewN ?_ _) | (with_reducible refine Kd.C_drew ?_)));(case side2 => exact HC0_1.out);(case side3 => repeat (first|exact (Kd.C_below HR1.out HB.out) | (with_reducible refine Kd.C_alloc ?_ _) | (with_reducible refine Kd.C_drewN ?_ _) | (with_reducible refine Kd.C_drew ?_)));(case side4 => exact HC1.out);rintro e w64 ⟨v365, rfl, ho0, hb⟩;refine ⟨_, rfl, ?_⟩;have n0_ := Aside0.mk (Kd.S_lower ho0 (below_size (by repeat (first|(with_reducible first | exact HB.out | apply below_alloc | apply pw_below_drewN | apply below_drew1 | refine below_set ?_ GE356.out) | exact HB.out))));have n1_ := Aside0.mk (blk_below (g := gb356) (o := .cells #[.int .i64 a0_0, .slice A0_1 l0_1.length c0_1] 24 (0, 0)) (by (with_reducible repeat (first|refine blk_drewN ?_ _ | refine blk_drew ?_ | refine blk_alloc ?_ _));exact BK356.out) hb);have n2_ := Aside0.mk (below_step (by repeat (first|(with_reducible first | exact HB.out | apply below_alloc | apply pw_below_drewN | apply below_drew1 | refine below_set ?_ GE356.out) | exact HB.out)) hb);clear BK356;clear HB;have HO366 := n0_;have BK356 := n1_;have HB := n2_;clear n0_ n1_ n2_;(try clear hb);(try clear hb2);(try clear hk);(try clear hi);(try clear ho0)) | ((with_reducible refine gate_dst (N := 7) rfl ?_);(try (refine gate_guard (by rfl) ?_;dsimp only));refine box_event ?hg (N := 7) ?hd (cs := #[.int .i64 0, .slice none 0 0]) (t := 24) ?hr ?_;(case hd => rfl);(case hg => rfl);(case hr => first | (go_simp;done) | (go_simp;rfl));intro gb368 hg w65 hbox hb;have n0_ := Aside0.mk (Kd.S_below (by (with_reducible repeat (first|apply Kd.S_alloc | apply Kd.S_drewN | apply Kd.S_drew));exact HO366.out) hb);have n1_ := Aside0.mk (blk_below (g := gb356) (o := .cells #[.int .i64 a0_0, .slice A0_1 l0_1.length c0_1] 24 (0, 0)) (by (with_reducible repeat (first|refine blk_drewN ?_ _ | refine blk_drew ?_ | refine blk_alloc ?_ _));exact BK356.out) hb);have n2_ := Aside0.mk (below_step (by repeat (first|(with_reducible first | exact HB.out | apply below_alloc | apply pw_below_drewN | apply below_drew1 | refine below_set ?_ GE356.out) | exact HB.out)) hb);have n3_ := Aside0.mk (hbox);have n4_ := Aside0.mk ((by rw [hg];exact (below_size (by repeat (first|(with_reducible first | exact HB.out | apply below_alloc | apply pw_below_drewN | apply below_drew1 | refine below_set ?_ GE356.out) | exact HB.out))) : w.heap.size ≤ gb368));have n5_ := Aside0.mk ((by rw [hg];exact (below_size (by repeat (first|(with_reducible first | exact HB.out | apply below_alloc | apply pw_below_drewN | apply below_drew1 | refine below_set ?_ GE356.out) | exact HB.out))) : w.heap.size ≤ gb368));have n6_ := Aside0.mk ((by rw [hg];exact Nat.ne_of_lt (blk_lt (g := gb356) (o := .cells #[.int .i64 a0_0, .slice A0_1 l0_1.length c0_1] 24 (0, 0)) (by (with_reducible repeat (first|refine blk_drewN ?_ _ | refine blk_drew ?_ | refine blk_alloc ?_ _));exact BK356.out)) : gb356 ≠ gb368));have n7_ := Aside0.mk ((by rw [hg];exact Nat.ne_of_gt (blk_lt (g := gb356) (o := .cells #[.int .i64 a0_0, .slice A0_1 l0_1.length c0_1] 24 (0, 0)) (by (with_reducible repeat (first|refine blk_drewN ?_ _ | refine blk_drew ?_ | refine blk_alloc ?_ _));exact BK356.out)) : gb368 ≠ gb356));clear HO366;clear BK356;clear HB;have HO366 := n0_;have BK356 := n1_;have HB := n2_;have BK368 := n3_;have GW368 := n4_;have GE368 := n5_;have NB356_368 := n6_;have NB368_356 := n7_;clear n0_ n1_ n2_ n3_ n4_ n5_ n6_ n7_;clear hb hbox hg;have hnb66 := NB368_356.out;have hnc66 := NB356_368.out;have hcz67_0 : w65.cell? ⟨gb368, 0, none⟩ = some (.int .i64 0) := (blk_cell BK368.out 0).trans rfl;have hcz67_1 : w65.cell? ⟨gb368, 1, none⟩ = some (.slice none 0 0) := (blk_cell BK368.out 1).trans rfl;have hfz67_0 := blk_frozen BK368.out 0;have hfz67_1 := blk_frozen BK368.out 1;obtain ⟨Ao68, co68, eo68⟩ := Kd.S_slice HO366.out;subst eo68;have hcz69_0 : w65.cell? ⟨gb356, 0, none⟩ = some (.int .i64 a0_0) := (blk_cell BK356.out 0).trans rfl;have hcz69_1 : w65.cell? ⟨gb356, 1, none⟩ = some (.slice A0_1 l0_1.length c0_1) := (blk_cell BK356.out 1).trans rfl;have hfz69_0 := blk_frozen BK356.out 0;have hfz69_1 := blk_frozen BK356.out 1) | ((with_reducible refine gate_callee (f := 28) rfl ?_);refine goesL_ (some 67) rfl rfl Try.func28 (by kernel_rfl) rfl #[.agg #[.int .i64 a0_0, .slice A0_1 l0_1.length c0_1], .slice A1 l1.length c1] rfl (by (try simp only [List.map_toArray, List.map_cons, List.map_nil]);first | done | rfl | (simp only [List.length_drop, List.length_take];rfl)) ?_;(with_reducible refine (galoisref23_With.calls kj3 a0_0 _ _ l0_1 _ _ l1 t369 _ ?side1 ?side2 ?side3 ?side4 A60.out).mono ?_);(case side1 => exact Kd.C_below HR0_1.out (by repeat (first|(with_reducible first | exact HB.out | apply below_alloc | apply pw_below_drewN | apply below_drew1 | refine below_set ?_ GE356.out | refine below_set ?_ GE368.out) | exact HB.out)));(case side2 => exact HC0_1.out);(case side3 => exact Kd.C_below HR1.out (by repeat (first|(with_reducible first | exact HB.out | apply below_alloc | apply pw_below_drewN | apply below_drew1 | refine below_set ?_ GE356.out | refine below_set ?_ GE368.out) | exact HB.out)));(case side4 => exact HC1.out);rintro e w70 ⟨rfl, hb⟩;refine ⟨_, rfl, ?_⟩;have n0_ := Aside0.mk (Kd.S_below (by (with_reducible repeat (first|apply Kd.S_alloc | apply Kd.S_drewN | apply Kd.S_drew));exact (Kd.S_mono (Kd.S_far (p := ⟨gb368, 1, none⟩) (Kd.S_far (p := ⟨gb368, 0, none⟩) (Kd.S_types HO366.out BK368.out (by decide)) (fun _ hk => hk.2) (.int .i64 t363)) (fun _ hk => hk.2) (.slice Ao68 t364.length co68)) (fun _ h_ => h_.1))) hb);have n1_ := Aside0.mk (blk_below (g := gb356) (o := .cells #[.int .i64 a0_0, .slice A0_1 l0_1.length c0_1] 24 (0, 0)) (by (with_reducible repeat (first|refine blk_drewN ?_ _ | refine blk_drew ?_ | refine blk_alloc ?_ _));refine blk_far ?_ NB356_368.out _;(with_reducible repeat (first|refine blk_drewN ?_ _ | refine blk_drew ?_ | refine blk_alloc ?_ _));refine blk_far ?_ NB356_368.out _;(with_reducible repeat (first|refine blk_drewN ?_ _ | refine blk_drew ?_ | refine blk_alloc ?_ _));exact BK356.out) hb);have n2_ := Aside0.mk (blk_below (g := gb368) (o := .cells #[.int .i64 t363, .slice Ao68 t364.length co68] 24 (0, 0)) (by (with_reducible repeat (first|refine blk_drewN ?_ _ | refine blk_drew ?_ | refine blk_alloc ?_ _));refine blk_put (cs := #[.int .i64 t363, .slice none 0 0]) ?_ 1 _ rfl;(with_reducible repeat (first|refine blk_drewN ?_ _ | refine blk_drew ?_ | refine blk_alloc ?_ _));refine blk_put (cs := #[.int .i64 0, .slice none 0 0]) ?_ 0 _ rfl;(with_reducible repeat (first|refine blk_drewN ?_ _ | refine blk_drew ?_ | refine blk_alloc ?_ _));exact BK368.out) hb);have n3_ := Aside0.mk (below_step (by repeat (first|(with_reducible first | exact HB.out | apply below_alloc | apply pw_below_drewN | apply below_drew1 | refine below_set ?_ GE356.out | refine below_set ?_ GE368.out) | exact HB.out)) hb);clear HO366;clear BK356;clear BK368;clear HB;have HO366 := n0_;have BK356 := n1_;have BK368 := n2_;have HB := n3_;clear n0_ n1_ n2_ n3_;(try clear hb);(try clear hb2);(try clear hk);(try clear hi)))
     (try simp only [Act.put, List.setIfInBounds_toArray, List.set_cons_zero, List.set_cons_succ])
     go_cut [94] (fun v94 wc => ∃ (kq : Nat) (x94_61 : Bool), v94 = .bool x94_61 ∧ Aside0 (galoislaw23_PermgroupConjugates.j1 kq l1 l2 x94_61 a0_0 l0_1 t363 t364 = some r) ∧ Aside0 (kq ≤ kj3) ∧ Aside0 (Kd.S (Kd.slice 3 (Kd.int .i64)) 47 wc w.heap.size (fun _ => True) (.slice Ao68 t364.length co68) t364) ∧ Aside0 (wc.heap[gb356]? = some (.cells #[.int .i64 a0_0, (.slice A0_1 l0_1.length c0_1)] 24 (0, 0))) ∧ Aside0 (wc.heap[gb368]? = some (.cells #[.int .i64 t363, (.slice Ao68 t364.length co68)] 24 (0, 0))) ∧ Aside0 (Below w.heap.size w wc))
     case first =>
      have H := HC62.out
      clear HC62
      by_cases c71 : t367 = 0
      ·rw [if_pos c71] at H
       have c71b0 : (t367 == 0) = true := beq_iff_eq.mpr c71
       have c71b1 : (t367 != 0) = false := bne_eq_false_iff_eq.mpr c71
       clear c71
       (first|rw [c71b0] | (simp only [i64_w, i32_w];rw [c71b0]) | skip)
       by_cases c72 : t363 = a0_0
       ·rw [if_pos c72] at H
        have c72b0 : (t363 == a0_0) = true := beq_iff_eq.mpr c72
        have c72b1 : (t363 != a0_0) = false := bne_eq_false_iff_eq.mpr c72
        clear c72
        have H' := Aside0.mk H
        clear H
        have hnb73 := NB368_356.out
        have hnc73 := NB356_368.out
        have hcz74_0 : w70.cell? ⟨gb368, 0, none⟩ = some (.int .i64 t363) := (blk_cell BK368.out 0).trans rfl
        have hcz74_1 : w70.cell? ⟨gb368, 1, none⟩ = some (.slice Ao68 t364.length co68) := (blk_cell BK368.out 1).trans rfl
        have hfz74_0 := blk_frozen BK368.out 0
        have hfz74_1 := blk_frozen BK368.out 1
        have hcz75_0 : w70.cell? ⟨gb356, 0, none⟩ = some (.int .i64 a0_0) := (blk_cell BK356.out 0).trans rfl
        have hcz75_1 : w70.cell? ⟨gb356, 1, none⟩ = some (.slice A0_1 l0_1.length c0_1) := (blk_cell BK356.out 1).trans rfl
        have hfz75_0 := blk_frozen BK356.out 0
        have hfz75_1 := blk_frozen BK356.out 1
        as_aux_lemma =>
         go_wp2
         go_meet
         case rel => exact ⟨_, (((t364.length : Int) != (l0_1.length : Int))), (by first | rfl | (simp;done) | (simp [*];done)), H', ⟨by have := HJ3.out;first | omega | exact Nat.le_refl _⟩, ⟨by (with_reducible repeat (first|apply Kd.S_alloc | apply Kd.S_drewN | apply Kd.S_drew));exact HO366.out⟩, ⟨by (with_reducible repeat (first|refine blk_drewN ?_ _ | refine blk_drew ?_ | refine blk_alloc ?_ _));exact BK356.out⟩, ⟨by (with_reducible repeat (first|refine blk_drewN ?_ _ | refine blk_drew ?_ | refine blk_alloc ?_ _));exact BK368.out⟩, ⟨by repeat (first|(with_reducible first | exact HB.out | apply below_alloc | apply pw_below_drewN | apply below_drew1 | refine below_set ?_ GE356.out | refine below_set ?_ GE368.out) | exact HB.out)⟩⟩
       ·rw [if_neg c72] at H
        have c72b0 : (t363 == a0_0) = false := beq_eq_false_iff_ne.mpr c72
        have c72b1 : (t363 != a0_0) = true := bne_iff_ne.mpr c72
        have H' := Aside0.mk H
        clear H
        have hnb76 := NB368_356.out
        have hnc76 := NB356_368.out
        have hcz77_0 : w70.cell? ⟨gb368, 0, none⟩ = some (.int .i64 t363) := (blk_cell BK368.out 0).trans rfl
        have hcz77_1 : w70.cell? ⟨gb368, 1, none⟩ = some (.slice Ao68 t364.length co68) := (blk_cell BK368.out 1).trans rfl
        have hfz77_0 := blk_frozen BK368.out 0
        have hfz77_1 := blk_frozen BK368.out 1
        have hcz78_0 : w70.cell? ⟨gb356, 0, none⟩ = some (.int .i64 a0_0) := (blk_cell BK356.out 0).trans rfl
        have hcz78_1 : w70.cell? ⟨gb356, 1, none⟩ = some (.slice A0_1 l0_1.length c0_1) := (blk_cell BK356.out 1).trans rfl
        have hfz78_0 := blk_frozen BK356.out 0
        have hfz78_1 := blk_frozen BK356.out 1
        as_aux_lemma =>
         go_wp2
         go_meet
         case rel => exact ⟨_, (true), (by first | rfl | (simp;done) | (simp [*];done)), H', ⟨by have := HJ3.out;first | omega | exact Nat.le_refl _⟩, ⟨by (with_reducible repeat (first|apply Kd.S_alloc | apply Kd.S_drewN | apply Kd.S_drew));exact HO366.out⟩, ⟨by (with_reducible repeat (first|refine blk_drewN ?_ _ | refine blk_drew ?_ | refine blk_alloc ?_ _));exact BK356.out⟩, ⟨by (with_reducible repeat (first|refine blk_drewN ?_ _ | refine blk_drew ?_ | refine blk_alloc ?_ _));exact BK368.out⟩, ⟨by repeat (first|(with_reducible first | exact HB.out | apply below_alloc | apply pw_below_drewN | apply below_drew1 | refine below_set ?_ GE356.out | refine below_set ?_ GE368.out) | exact HB.out)⟩⟩
      ·rw [if_neg c71] at H
       have c71b0 : (t367 == 0) = false := beq_eq_false_iff_ne.mpr c71
       have c71b1 : (t367 != 0) = true := bne_iff_ne.mpr c71
       (first|rw [c71b0] | (simp only [i64_w, i32_w];rw [c71b0]) | skip)
       have H' := Aside0.mk H
       clear H
       as_aux_lemma =>
        go_wp2
        go_meet
        case rel => exact ⟨_, (true), (by first | rfl | (simp;done) | (simp [*];done)), H', ⟨by have := HJ3.out;first | omega | exact Nat.le_refl _⟩, ⟨by (with_reducible repeat (first|apply Kd.S_alloc | apply Kd.S_drewN | apply Kd.S_drew));exact HO366.out⟩, ⟨by (with_reducible repeat (first|refine blk_drewN ?_ _ | refine blk_drew ?_ | refine blk_alloc ?_ _));exact BK356.out⟩, ⟨by (with_reducible repeat (first|refine blk_drewN ?_ _ | refine blk_drew ?_ | refine blk_alloc ?_ _));exact BK368.out⟩, ⟨by repeat (first|(with_reducible first | exact HB.out | apply below_alloc | apply pw_below_drewN | apply below_drew1 | refine below_set ?_ GE356.out | refine below_set ?_ GE368.out) | exact HB.out)⟩⟩
     case rest =>
      clear HC62
      try clear c1
      try clear c2
      try clear p2
      try clear c3
      try clear c4
      try clear c5
      try clear c6
      try clear c7
      try clear c9
      try clear c10
      try clear c10b0
      try clear c10b1
      try clear c14
      try clear c14b0
      try clear c14b1
      try clear c18
      try clear c18b0
      try clear c20
      try clear c20b0
      try clear c20b1
      try clear c26
      try clear c26b0
      try clear c26b1
      try clear c28
      try clear c32
      try clear c41
      try clear c41b0
      try clear c41b1
      try clear c56
      try clear c61
      try clear c61b0
      try clear c61b1
      try clear c66
      try clear c71
      try clear c71b0
      try clear c71b1
      try clear c72
      try clear c72b0
      try clear c72b1
      try clear c73
      try clear c76
      try clear hcz12_0
      try clear hcz12_1
      try clear hcz16_0
      try clear hcz16_1
      try clear hcz22_0
      try clear hcz22_1
      try clear hcz24_0
      try clear hcz24_1
      try clear hcz29_0
      try clear hcz29_1
      try clear hcz31_0
      try clear hcz31_1
      try clear hcz33_0
      try clear hcz33_1
      try clear hcz36_0
      try clear hcz36_1
      try clear hcz38_0
      try clear hcz38_1
      try clear hcz40_0
      try clear hcz40_1
      try clear hcz44_0
      try clear hcz44_1
      try clear hcz46_0
      try clear hcz46_1
      try clear hcz49_0
      try clear hcz49_1
      try clear hcz51_0
      try clear hcz51_1
      try clear hcz53_0
      try clear hcz53_1
      try clear hcz63_0
      try clear hcz63_1
      try clear hcz67_0
      try clear hcz67_1
      try clear hcz69_0
      try clear hcz69_1
      try clear hcz74_0
      try clear hcz74_1
      try clear hcz75_0
      try clear hcz75_1
      try clear hcz77_0
      try clear hcz77_1
      try clear hcz78_0
      try clear hcz78_1
      try clear hfz12_0
      try clear hfz12_1
      try clear hfz16_0
      try clear hfz16_1
      try clear hfz22_0
      try clear hfz22_1
      try clear hfz24_0
      try clear hfz24_1
      try clear hfz29_0
      try clear hfz29_1
      try clear hfz31_0
      try clear hfz31_1
      try clear hfz33_0
      try clear hfz33_1
      try clear hfz36_0
      try clear hfz36_1
      try clear hfz38_0
      try clear hfz38_1
      try clear hfz40_0
      try clear hfz40_1
      try clear hfz44_0
      try clear hfz44_1
      try clear hfz46_0
      try clear hfz46_1
      try clear hfz49_0
      try clear hfz49_1
      try clear hfz51_0
      try clear hfz51_1
      try clear hfz53_0
      try clear hfz53_1
      try clear hfz63_0
      try clear hfz63_1
      try clear hfz67_0
      try clear hfz67_1
      try clear hfz69_0
      try clear hfz69_1
      try clear hfz74_0
      try clear hfz74_1
      try clear hfz75_0
      try clear hfz75_1
      try clear hfz77_0
      try clear hfz77_1
      try clear hfz78_0
      try clear hfz78_1
      try clear p2
      obtain ⟨kq, x94_61, rfl, HA, HJ61, HO_369001, BK356, BK368, HB⟩ := hcut
      cases kq with
      | zero => exact absurd HA.out (by simp [galoislaw23_PermgroupConjugates.j1])
      | succ kj61 =>
       have H := HA.out
       clear HA
       simp only [galoislaw23_PermgroupConjugates.j1] at H
       by_cases c79 : x94_61 = true
       ·subst c79
        have H1 : (some false) = some r := by rw [if_pos rfl] at H;exact H
        clear H
        have H := H1
        clear H1
        obtain rfl := Option.some.inj H
        as_aux_lemma =>
         go_wp2
         go_ret
         exact ⟨by first | rfl | (simp [errW_none, errW_some] <;> rfl) | (simp [*, errW_none, errW_some] <;> rfl), by repeat (first|(with_reducible first | exact HB.out | apply below_alloc | apply pw_below_drewN | apply below_drew1 | refine below_set ?_ GE356.out | refine below_set ?_ GE368.out) | exact HB.out)⟩
       ·replace c79 := Bool.eq_false_iff.mpr c79
        subst c79
        have H1 : (galoislaw23_PermgroupConjugates.l0 kj61 l1 l2 0 a0_0 l0_1 t363 t364) = some r := by rw [if_neg (show ¬ (false = true) by decide)] at H;exact H
        clear H
        have H := H1
        clear H1
        have H' := Aside0.mk H
        clear H
        as_aux_lemma =>
         go_wp2
         go_loopg [10] kj61 (fun kq v10 w' => ∃ (x10_3 : Int), v10 = .int .i64 x10_3 ∧ Aside0 (galoislaw23_PermgroupConjugates.l0 kq l1 l2 x10_3 a0_0 l0_1 t363 t364 = some r) ∧ Aside0 (kq ≤ kj61) ∧ Aside0 (Kd.S (Kd.slice 3 (Kd.int .i64)) 47 w' w.heap.size (fun _ => True) (.slice Ao68 t364.length co68) t364) ∧ Aside0 (w'.heap[gb356]? = some (.cells #[.int .i64 a0_0, (.slice A0_1 l0_1.length c0_1)] 24 (0, 0))) ∧ Aside0 (w'.heap[gb368]? = some (.cells #[.int .i64 t363, (.slice Ao68 t364.length co68)] 24 (0, 0))) ∧ Aside0 (Below w.heap.size w w'))
         case atStart => exact ⟨(0), (by first | rfl | (simp;done) | (simp [*];done)), H', ⟨Nat.le_refl _⟩, ⟨by (with_reducible repeat (first|apply Kd.S_alloc | apply Kd.S_drewN | apply Kd.S_drew));exact HO_369001.out⟩, ⟨by (with_reducible repeat (first|refine blk_drewN ?_ _ | refine blk_drew ?_ | refine blk_alloc ?_ _));exact BK356.out⟩, ⟨by (with_reducible repeat (first|refine blk_drewN ?_ _ | refine blk_drew ?_ | refine blk_alloc ?_ _));exact BK368.out⟩, ⟨by repeat (first|(with_reducible first | exact HB.out | apply below_alloc | apply pw_below_drewN | apply below_drew1 | refine below_set ?_ GE356.out | refine below_set ?_ GE368.out) | exact HB.out)⟩⟩
         case round =>
          clear H'
          try clear c1
          try clear c2
          try clear p2
          try clear c3
          try clear c4
          try clear c5
          try clear c6
          try clear c7
          try clear c9
          try clear c10
          try clear c10b0
          try clear c10b1
          try clear c14
          try clear c14b0
          try clear c14b1
          try clear c18
          try clear c18b0
          try clear c20
          try clear c20b0
          try clear c20b1
          try clear c26
          try clear c26b0
          try clear c26b1
          try clear c28
          try clear c32
          try clear c41
          try clear c41b0
          try clear c41b1
          try clear c56
          try clear c61
          try clear c61b0
          try clear c61b1
          try clear c66
          try clear c71
          try clear c71b0
          try clear c71b1
          try clear c72
          try clear c72b0
          try clear c72b1
          try clear c73
          try clear c76
          try clear c79
          try clear hcz12_0
          try clear hcz12_1
          try clear hcz16_0
          try clear hcz16_1
          try clear hcz22_0
          try clear hcz22_1
          try clear hcz24_0
          try clear hcz24_1
          try clear hcz29_0
          try clear hcz29_1
          try clear hcz31_0
          try clear hcz31_1
          try clear hcz33_0
          try clear hcz33_1
          try clear hcz36_0
          try clear hcz36_1
          try clear hcz38_0
          try clear hcz38_1
          try clear hcz40_0
          try clear hcz40_1
          try clear hcz44_0
          try clear hcz44_1
          try clear hcz46_0
          try clear hcz46_1
          try clear hcz49_0
          try clear hcz49_1
          try clear hcz51_0
          try clear hcz51_1
          try clear hcz53_0
          try clear hcz53_1
          try clear hcz63_0
          try clear hcz63_1
          try clear hcz67_0
          try clear hcz67_1
          try clear hcz69_0
          try clear hcz69_1
          try clear hcz74_0
          try clear hcz74_1
          try clear hcz75_0
          try clear hcz75_1
          try clear hcz77_0
          try clear hcz77_1
          try clear hcz78_0
          try clear hcz78_1
          try clear hfz12_0
          try clear hfz12_1
          try clear hfz16_0
          try clear hfz16_1
          try clear hfz22_0
          try clear hfz22_1
          try clear hfz24_0
          try clear hfz24_1
          try clear hfz29_0
          try clear hfz29_1
          try clear hfz31_0
          try clear hfz31_1
          try clear hfz33_0
          try clear hfz33_1
          try clear hfz36_0
          try clear hfz36_1
          try clear hfz38_0
          try clear hfz38_1
          try clear hfz40_0
          try clear hfz40_1
          try clear hfz44_0
          try clear hfz44_1
          try clear hfz46_0
          try clear hfz46_1
          try clear hfz49_0
          try clear hfz49_1
          try clear hfz51_0
          try clear hfz51_1
          try clear hfz53_0
          try clear hfz53_1
          try clear hfz63_0
          try clear hfz63_1
          try clear hfz67_0
          try clear hfz67_1
          try clear hfz69_0
          try clear hfz69_1
          try clear hfz74_0
          try clear hfz74_1
          try clear hfz75_0
          try clear hfz75_1
          try clear hfz77_0
          try clear hfz77_1
          try clear hfz78_0
          try clear hfz78_1
          try clear p2
          obtain ⟨x10_3, rfl, HA, HK3, HO_369001, BK356, BK368, HB⟩ := hrel
          cases gk with
          | zero => exact absurd HA.out (by simp [galoislaw23_PermgroupConjugates.l0])
          | succ k3 =>
           have H := HA.out
           clear HA
           simp only [galoislaw23_PermgroupConjugates.l0] at H
           by_cases c80 : x10_3 < (t364.length : Int)
           ·rw [if_pos c80] at H
            have c80b0 : decide (x10_3 < (t364.length : Int)) = true := decide_eq_true c80
            clear c80
            by_cases c81 : 0 ≤ x10_3
            ·rw [if_pos c81] at H
             have c81b0 : decide (0 ≤ x10_3) = true := decide_eq_true c81
             clear c81
             by_cases c82 : x10_3 < (l0_1.length : Int)
             ·rw [if_pos c82] at H
              have c82b0 : decide (x10_3 < (l0_1.length : Int)) = true := decide_eq_true c82
              clear c82
              replace H := Option.bind_eq_some_iff.mp H
              obtain ⟨t373, A830, H⟩ := H
              replace H : ((galoisref22_Same.f k3 (rd_L1 t364 x10_3) t373).bind fun t376 => (if t376 = true then (galoislaw23_PermgroupConjugates.l0 k3 l1 l2 (wrap64 (x10_3 + 1)) a0_0 l0_1 t363 t364) else (some false))) = some r := H
              have A83 := Aside0.mk A830
              clear A830
              replace H := Option.bind_eq_some_iff.mp H
              obtain ⟨t376, A840, H⟩ := H
              replace H : (if t376 = true then (galoislaw23_PermgroupConjugates.l0 k3 l1 l2 (wrap64 (x10_3 + 1)) a0_0 l0_1 t363 t364) else (some false)) = some r := H
              have A84 := Aside0.mk A840
              clear A840
              by_cases c85 : t376 = true
              ·subst c85
               have H1 : (galoislaw23_PermgroupConjugates.l0 k3 l1 l2 (wrap64 (x10_3 + 1)) a0_0 l0_1 t363 t364) = some r := by rw [if_pos rfl] at H;exact H
               clear H
               have H := H1
               clear H1
               have H' := Aside0.mk H
               clear H
               have hnb86 := NB368_356.out
               have hnc86 := NB356_368.out
               have hcz87_0 : wr.cell? ⟨gb368, 0, none⟩ = some (.int .i64 t363) := (blk_cell BK368.out 0).trans rfl
               have hcz87_1 : wr.cell? ⟨gb368, 1, none⟩ = some (.slice Ao68 t364.length co68) := (blk_cell BK368.out 1).trans rfl
               have hfz87_0 := blk_frozen BK368.out 0
               have hfz87_1 := blk_frozen BK368.out 1
               try go_wp2
               have n0_ := Aside0.mk (Kd.S_drew HO_369001.out)
               have n1_ := Aside0.mk (blk_drew BK356.out)
               have n2_ := Aside0.mk (blk_drew BK368.out)
               have n3_ := Aside0.mk (below_drew1 HB.out)
               clear HO_369001 BK356 BK368 HB
               have HO_369001 := n0_
               have BK356 := n1_
               have BK368 := n2_
               have HB := n3_
               clear n0_ n1_ n2_ n3_
               have p371 : 0 ≤ (x10_3 : Int) := of_decide_eq_true (by first | (with_reducible assumption) | assumption)
               have q371 : x10_3 < (t364.length : Int) := of_decide_eq_true (by first | (with_reducible assumption) | assumption)
               obtain ⟨ad371, A371_0, c371_0, e371, hx371_0, hl371_0, hi371_0⟩ := at_L1 (Kd.S_reads' HO_369001.out).2.2 x10_3 p371 q371
               cases e371
               obtain ⟨ce371, hce371, hMe371, hcc371⟩ := Kd.S_get HO_369001.out [] x10_3 p371 (by first | exact q371 | exact of_decide_eq_true (by first | (with_reducible assumption) | assumption) | (have e_ := (Kd.S_reads' HO_369001.out).1;omega))
               obtain ⟨ve371_0, rfl, ge371_0⟩ := hMe371
               have hv371_0 := hcc371 0 _ rfl
               rw [Nat.add_zero, show ((Kd.slice 3 (Kd.int .i64))).sz = 1 from rfl, Nat.mul_one] at hv371_0
               replace hv371_0 := Option.some.inj (hv371_0.symm.trans hx371_0)
               rw [hv371_0] at ge371_0
               have HL371_0 := Aside0.mk (show Kd.R (Kd.int .i64) 3 _ _ _ _ (rd_L1 t364 x10_3) from ge371_0)
               clear hv371_0 ge371_0 hcc371 hce371
               have HR371_0 := Aside0.mk hi371_0
               have HC371_0 := Aside0.mk hl371_0
               clear hi371_0 hl371_0
               replace p371 := eq_true p371
               replace q371 := eq_true q371
               have p372 : 0 ≤ (x10_3 : Int) := of_decide_eq_true (by first | (with_reducible assumption) | assumption)
               have q372 : x10_3 < (l0_1.length : Int) := of_decide_eq_true (by first | (with_reducible assumption) | assumption)
               obtain ⟨ad372, A372_0, c372_0, e372, hx372_0, hl372_0, hi372_0⟩ := at_L1 HR0_1.out x10_3 p372 q372
               have hw372_0 := hx372_0
               cases e372
               try (replace hx372_0 := (HB.out.cell (World.block_lt_of_cell? w _ hx372_0)).trans hx372_0)
               have HR372_0 := Aside0.mk hi372_0
               have HC372_0 := Aside0.mk hl372_0
               clear hi372_0 hl372_0
               replace p372 := eq_true p372
               replace q372 := eq_true q372
               refine start_ (n := 14) (S := fun w' => w'.cell? ⟨gb368, 0, none⟩ = some (.int .i64 t363) ∧ w'.cell? ⟨gb368, 1, none⟩ = some (.slice (some ad371) t364.length co68) ∧ w'.cell? ⟨gb356, 0, none⟩ = some (.int .i64 a0_0) ∧ w'.cell? ⟨gb356, 1, none⟩ = some (.slice (some ad372) l0_1.length c0_1) ∧ w'.cell? (ad371.add (x10_3).toNat) = some (.slice A371_0 (rd_L1 t364 x10_3).length c371_0) ∧ w'.cell? (ad372.add (x10_3).toNat) = some (.slice A372_0 (rd_L1 l0_1 x10_3).length c372_0)) (ds := []) #[false, false, false, false, false, false, false, false, false, false, false, false, false, false] (by kernel_rfl) rfl rfl ⟨(blk_cell BK368.out 0).trans rfl, (blk_cell BK368.out 1).trans rfl, (blk_cell BK356.out 0).trans rfl, (blk_cell BK356.out 1).trans rfl, hx371_0, ((HB.out.cell (World.block_lt_of_cell? w _ hw372_0)).trans hw372_0)⟩ (fun hHeld => ?_);refine with_tabW galoislaw23_PermgroupConjugates.tab12 galoislaw23_PermgroupConjugates.bits12 (fun HT_ HW_ => ?_)
               generalize wr.drew = w88 at HO_369001 BK356 BK368 HB HL371_0 HR371_0 HR372_0 hx371_0 hx372_0 hHeld ⊢
               refine pure_ (i := 0) (N := some 102) (v := ?_) (a' := ?_) #[true, false, false, false, false, false, false, false, false, false, false, false, false, false] rfl rfl (any_of HT_.out (by kernel_rfl)) (fun _ _ _ h => h) (Or.inl ⟨by rfl, ?_⟩) ?_ ?_
               rotate_left
               ·intro w'
                go_simp
                with_reducible rfl
               rotate_left
               ·simp only [Act.put, List.setIfInBounds_toArray, List.set_cons_zero, List.set_cons_succ, i64_w, i32_w]
                rfl
               refine pure_ (i := 2) (N := some 104) (v := ?_) (a' := ?_) #[true, false, true, false, false, false, false, false, false, false, false, false, false, false] rfl rfl (any_of HT_.out (by kernel_rfl)) (fun _ _ _ h => h) (Or.inl ⟨by rfl, ?_⟩) ?_ ?_
               rotate_left
               ·intro w'
                go_simp
                with_reducible rfl
               rotate_left
               ·simp only [Act.put, List.setIfInBounds_toArray, List.set_cons_zero, List.set_cons_succ, i64_w, i32_w]
                rfl
               refine pure_ (i := 5) (N := some 107) (v := ?_) (a' := ?_) #[true, false, true, false, false, true, false, false, false, false, false, false, false, false] rfl rfl (any_of HT_.out (by kernel_rfl)) (fun _ _ _ h => h) (Or.inl ⟨by rfl, ?_⟩) ?_ ?_
               rotate_left
               ·intro w'
                go_simp
                with_reducible rfl
               rotate_left
               ·simp only [Act.put, List.setIfInBounds_toArray, List.set_cons_zero, List.set_cons_succ, i64_w, i32_w]
                rfl
               refine pure_ (i := 7) (N := some 109) (v := ?_) (a' := ?_) #[true, false, true, false, false, true, false, true, false, false, false, false, false, false] rfl rfl (any_of HT_.out (by kernel_rfl)) (fun _ _ _ h => h) (Or.inl ⟨by rfl, ?_⟩) ?_ ?_
               rotate_left
               ·intro w'
                go_simp
                with_reducible rfl
               rotate_left
               ·simp only [Act.put, List.setIfInBounds_toArray, List.set_cons_zero, List.set_cons_succ, i64_w, i32_w]
                rfl
               refine pure_ (i := 10) (N := some 112) (v := ?_) (a' := ?_) #[true, false, true, false, false, true, false, true, false, false, true, false, false, false] rfl rfl (any_of HT_.out (by kernel_rfl)) (fun _ _ _ h => h) (Or.inl ⟨by rfl, ?_⟩) ?_ ?_
               rotate_left
               ·intro w'
                go_simp
                with_reducible rfl
               rotate_left
               ·simp only [Act.put, List.setIfInBounds_toArray, List.set_cons_zero, List.set_cons_succ, i64_w, i32_w]
                rfl
               refine take_ (i := 1) (N := some 103) (v := ?_) (a' := ?_) #[true, true, true, false, false, true, false, true, false, false, true, false, false, false] rfl rfl (take_ofW HT_.out HW_.out (by kernel_rfl)) (fun _ _ _ h => h) (Or.inl ⟨by rfl, ?_⟩) hHeld ?_ ?_
               rotate_left
               ·rintro w' ⟨s0, s1, s2, s3, s4, s5⟩
                go_simp
                with_reducible rfl
               rotate_left
               ·simp only [Act.put, List.setIfInBounds_toArray, List.set_cons_zero, List.set_cons_succ, i64_w, i32_w]
                rfl
               refine pure_ (i := 3) (N := some 105) (v := ?_) (a' := ?_) #[true, true, true, true, false, true, false, true, false, false, true, false, false, false] rfl rfl (any_of HT_.out (by kernel_rfl)) (fun _ _ _ h => h) (Or.inl ⟨by rfl, ?_⟩) ?_ ?_
               rotate_left
               ·intro w'
                go_simp
                with_reducible rfl
               rotate_left
               ·simp only [Act.put, List.setIfInBounds_toArray, List.set_cons_zero, List.set_cons_succ, i64_w, i32_w]
                rfl
               refine take_ (i := 4) (N := some 106) (v := ?_) (a' := ?_) #[true, true, true, true, true, true, false, true, false, false, true, false, false, false] rfl rfl (take_ofW HT_.out HW_.out (by kernel_rfl)) (fun _ _ _ h => h) (Or.inl ⟨by rfl, ?_⟩) hHeld ?_ ?_
               rotate_left
               ·rintro w' ⟨s0, s1, s2, s3, s4, s5⟩
                go_simp
                with_reducible rfl
               rotate_left
               ·simp only [Act.put, List.setIfInBounds_toArray, List.set_cons_zero, List.set_cons_succ, i64_w, i32_w]
                rfl
               refine take_ (i := 6) (N := some 108) (v := ?_) (a' := ?_) #[true, true, true, true, true, true, true, true, false, false, true, false, false, false] rfl rfl (take_ofW HT_.out HW_.out (by kernel_rfl)) (fun _ _ _ h => h) (Or.inl ⟨by rfl, ?_⟩) hHeld ?_ ?_
               rotate_left
               ·rintro w' ⟨s0, s1, s2, s3, s4, s5⟩
                go_simp
                with_reducible rfl
               rotate_left
               ·simp only [Act.put, List.setIfInBounds_toArray, List.set_cons_zero, List.set_cons_succ, i64_w, i32_w]
                rfl
               refine pure_ (i := 8) (N := some 110) (v := ?_) (a' := ?_) #[true, true, true, true, true, true, true, true, true, false, true, false, false, false] rfl rfl (any_of HT_.out (by kernel_rfl)) (fun _ _ _ h => h) (Or.inl ⟨by rfl, ?_⟩) ?_ ?_
               rotate_left
               ·intro w'
                go_simp
                with_reducible rfl
               rotate_left
               ·simp only [Act.put, List.setIfInBounds_toArray, List.set_cons_zero, List.set_cons_succ, i64_w, i32_w]
                rfl
               refine take_ (i := 9) (N := some 111) (v := ?_) (a' := ?_) #[true, true, true, true, true, true, true, true, true, true, true, false, false, false] rfl rfl (take_ofW HT_.out HW_.out (by kernel_rfl)) (fun _ _ _ h => h) (Or.inl ⟨by rfl, ?_⟩) hHeld ?_ ?_
               rotate_left
               ·rintro w' ⟨s0, s1, s2, s3, s4, s5⟩
                go_simp
                with_reducible rfl
               rotate_left
               ·simp only [Act.put, List.setIfInBounds_toArray, List.set_cons_zero, List.set_cons_succ, i64_w, i32_w]
                rfl
               refine one_ (i := 11) (N := some 113) #[true, true, true, true, true, true, true, true, true, true, true, true, false, false] rfl rfl (one_of HT_.out (by kernel_rfl)) (by decide) (fun K hK => ?_)
               refine goes_ Try.func33 (by kernel_rfl) rfl #[.slice A372_0 (rd_L1 l0_1 x10_3).length c372_0, .slice A1 l1.length c1] (by rfl) rfl rfl (by (try simp only [List.map_toArray, List.map_cons, List.map_nil]);first | done | rfl | (simp only [List.length_drop, List.length_take];rfl)) ?_
               with_reducible refine (galoisref22_Conjugate.calls k3 _ _ (rd_L1 l0_1 x10_3) _ _ l1 t373 _ ?side1 ?side2 ?side3 ?side4 A83.out).mono ?_
               (case side1 => repeat (first|exact (Kd.C_below HR372_0.out HB.out) | (with_reducible refine Kd.C_alloc ?_ _) | (with_reducible refine Kd.C_drewN ?_ _) | (with_reducible refine Kd.C_drew ?_)))
               (case side2 => exact HC372_0.out)
               (case side3 => repeat (first|exact (Kd.C_below HR1.out HB.out) | (with_reducible refine Kd.C_alloc ?_ _) | (with_reducible refine Kd.C_drewN ?_ _) | (with_reducible refine Kd.C_drew ?_)))
               (case side4 => exact HC1.out)
               rintro e w89 ⟨v374, rfl, ho0, hb⟩
               have HS4_ := (hb.cell (World.block_lt_of_cell? _ _ (hHeld.2.2.2.2.1))).trans (hHeld.2.2.2.2.1)
               refine ⟨_, rfl, ?_⟩
               have n0_ := Aside0.mk (Kd.S_elder' (by (with_reducible repeat (first|apply Kd.S_alloc | apply Kd.S_drewN | apply Kd.S_drew));exact HO_369001.out) (Kd.R_base ho0) hb)
               have n1_ := Aside0.mk (Kd.R_elder' (by (with_reducible repeat (first|apply Kd.R_alloc | apply Kd.R_drewN | apply Kd.R_drew));exact HL371_0.out) (Kd.R_base ho0) hb)
               have n2_ := Aside0.mk (Kd.R_lower (Kd.R_new' ho0 (Kd.R_lt (by (with_reducible repeat (first|apply Kd.R_alloc | apply Kd.R_drewN | apply Kd.R_drew));exact HL371_0.out))) (below_size (by repeat (first|(with_reducible first | exact HB.out | apply below_alloc | apply pw_below_drewN | apply below_drew1 | refine below_set ?_ GE356.out | refine below_set ?_ GE368.out) | exact HB.out))))
               have n3_ := Aside0.mk (blk_below (g := gb356) (o := .cells #[.int .i64 a0_0, .slice (some ad372) l0_1.length c0_1] 24 (0, 0)) (by (with_reducible repeat (first|refine blk_drewN ?_ _ | refine blk_drew ?_ | refine blk_alloc ?_ _));exact BK356.out) hb)
               have n4_ := Aside0.mk (blk_below (g := gb368) (o := .cells #[.int .i64 t363, .slice (some ad371) t364.length co68] 24 (0, 0)) (by (with_reducible repeat (first|refine blk_drewN ?_ _ | refine blk_drew ?_ | refine blk_alloc ?_ _));exact BK368.out) hb)
               have n5_ := Aside0.mk (Kd.C_below (by repeat (first|(with_reducible exact HR371_0.out) | (with_reducible refine Kd.C_alloc ?_ _) | (with_reducible refine Kd.C_drewN ?_ _) | (with_reducible refine Kd.C_drew ?_) | exact HR371_0.out)) hb)
               have n6_ := Aside0.mk (below_step (by repeat (first|(with_reducible first | exact HB.out | apply below_alloc | apply pw_below_drewN | apply below_drew1 | refine below_set ?_ GE356.out | refine below_set ?_ GE368.out) | exact HB.out)) hb)
               clear HO_369001 HL371_0 BK356 BK368 HR371_0 HB
               have HO_369001 := n0_
               have HL371_0 := n1_
               have HO375 := n2_
               have BK356 := n3_
               have BK368 := n4_
               have HR371_0 := n5_
               have HB := n6_
               clear n0_ n1_ n2_ n3_ n4_ n5_ n6_
               (try clear hb)
               (try clear hb2)
               (try clear hk)
               (try clear hi)
               (try clear ho0)
               obtain ⟨Ao90, co90, eo90⟩ := Kd.R_slice HO375.out
               (first|subst eo90 | (injection eo90 with f1_ f2_ f3_;have f4_ := f1_.symm;have f5_ := f3_.symm;clear f1_ f2_ f3_;subst f4_;subst f5_))
               refine hK.out _ _ ⟨(blk_cell BK368.out 0).trans rfl, (blk_cell BK368.out 1).trans rfl, (blk_cell BK356.out 0).trans rfl, (blk_cell BK356.out 1).trans rfl, HS4_, ((HB.out.cell (World.block_lt_of_cell? w _ hw372_0)).trans hw372_0)⟩ (fun hHeld => ?_)
               clear hK K
               refine norm_ (a' := ?_) ?_ ?_
               rotate_left
               ·show Act.put _ (some 113) _ = _
                simp only [Act.put, List.setIfInBounds_toArray, List.set_cons_zero, List.set_cons_succ, i64_w, i32_w]
                rfl
               refine one_ (i := 12) (N := some 114) #[true, true, true, true, true, true, true, true, true, true, true, true, true, false] rfl rfl (one_of HT_.out (by kernel_rfl)) (by decide) (fun K hK => ?_)
               refine goes_ Try.func27 (by kernel_rfl) rfl #[.slice A371_0 (rd_L1 t364 x10_3).length c371_0, .slice Ao90 t373.length co90] (by rfl) rfl rfl (by (try simp only [List.map_toArray, List.map_cons, List.map_nil]);first | done | rfl | (simp only [List.length_drop, List.length_take];rfl)) ?_
               with_reducible refine (galoisref22_Same.calls k3 _ _ (rd_L1 t364 x10_3) _ _ t373 true _ ?side1 ?side2 ?side3 ?side4 A84.out).mono ?_
               (case side1 => repeat (first|exact (by repeat (first|(with_reducible exact HR371_0.out) | (with_reducible refine Kd.C_alloc ?_ _) | (with_reducible refine Kd.C_drewN ?_ _) | (with_reducible refine Kd.C_drew ?_) | exact HR371_0.out)) | (with_reducible refine Kd.C_alloc ?_ _) | (with_reducible refine Kd.C_drewN ?_ _) | (with_reducible refine Kd.C_drew ?_)))
               (case side2 => exact HC371_0.out)
               (case side3 => repeat (first|exact (Kd.R_reads' HO375.out).2.2 | (with_reducible refine Kd.C_alloc ?_ _) | (with_reducible refine Kd.C_drewN ?_ _) | (with_reducible refine Kd.C_drew ?_)))
               (case side4 => exact (Kd.R_reads' HO375.out).2.1)
               rintro e w' ⟨rfl, ⟨nd, rfl⟩⟩
               refine ⟨_, rfl, ?_⟩
               refine hK.out _ _ ⟨(blk_cell BK368.out 0).trans rfl, (blk_cell BK368.out 1).trans rfl, (blk_cell BK356.out 0).trans rfl, (blk_cell BK356.out 1).trans rfl, hHeld.2.2.2.2.1, ((HB.out.cell (World.block_lt_of_cell? w _ hw372_0)).trans hw372_0)⟩ (fun hHeld => ?_)
               clear hK K
               refine norm_ (a' := ?_) ?_ ?_
               rotate_left
               ·show Act.put _ (some 114) _ = _
                simp only [Act.put, List.setIfInBounds_toArray, List.set_cons_zero, List.set_cons_succ, i64_w, i32_w]
                rfl
               refine pure_ (i := 13) (N := some 115) (v := ?_) (a' := ?_) #[true, true, true, true, true, true, true, true, true, true, true, true, true, true] rfl rfl (any_of HT_.out (by kernel_rfl)) (fun _ _ _ h => h) (Or.inl ⟨by rfl, ?_⟩) ?_ ?_
               rotate_left
               ·intro w'
                go_simp
                with_reducible rfl
               rotate_left
               ·simp only [Act.put, List.setIfInBounds_toArray, List.set_cons_zero, List.set_cons_succ, i64_w, i32_w]
                rfl
               refine done_ (done_of HT_.out (by kernel_rfl)) ?_
               try go_wp2
               go_roundg k3
               case measure => have := HJ3.out;have := HJ61.out;have := HK3.out;omega
               case rel => exact ⟨(wrap64 (x10_3 + 1)), (by first | rfl | (simp;done) | (simp [*];done)), H', ⟨by have := HJ3.out;have := HJ61.out;have := HK3.out;omega⟩, ⟨by (with_reducible repeat (first|apply Kd.S_alloc | apply Kd.S_drewN | apply Kd.S_drew));exact Kd.S_mono HO_369001.out (fun _ hk => trivial)⟩, ⟨by (with_reducible repeat (first|refine blk_drewN ?_ _ | refine blk_drew ?_ | refine blk_alloc ?_ _));exact BK356.out⟩, ⟨by (with_reducible repeat (first|refine blk_drewN ?_ _ | refine blk_drew ?_ | refine blk_alloc ?_ _));exact BK368.out⟩, ⟨by repeat (first|(with_reducible first | exact HB.out | apply below_alloc | apply pw_below_drewN | apply below_drew1 | refine below_set ?_ GE356.out | refine below_set ?_ GE368.out) | exact HB.out)⟩⟩
              ·replace c85 := Bool.eq_false_iff.mpr c85
               subst c85
               have H1 : (some false) = some r := by rw [if_neg (show ¬ (false = true) by decide)] at H;exact H
               clear H
               have H := H1
               clear H1
               obtain rfl := Option.some.inj H
               have hnb91 := NB368_356.out
               have hnc91 := NB356_368.out
               have hcz92_0 : wr.cell? ⟨gb368, 0, none⟩ = some (.int .i64 t363) := (blk_cell BK368.out 0).trans rfl
               have hcz92_1 : wr.cell? ⟨gb368, 1, none⟩ = some (.slice Ao68 t364.length co68) := (blk_cell BK368.out 1).trans rfl
               have hfz92_0 := blk_frozen BK368.out 0
               have hfz92_1 := blk_frozen BK368.out 1
               try go_wp2
               have n0_ := Aside0.mk (Kd.S_drew HO_369001.out)
               have n1_ := Aside0.mk (blk_drew BK356.out)
               have n2_ := Aside0.mk (blk_drew BK368.out)
               have n3_ := Aside0.mk (below_drew1 HB.out)
               clear HO_369001 BK356 BK368 HB
               have HO_369001 := n0_
               have BK356 := n1_
               have BK368 := n2_
               have HB := n3_
               clear n0_ n1_ n2_ n3_
               have p371 : 0 ≤ (x10_3 : Int) := of_decide_eq_true (by first | (with_reducible assumption) | assumption)
               have q371 : x10_3 < (t364.length : Int) := of_decide_eq_true (by first | (with_reducible assumption) | assumption)
               obtain ⟨ad371, A371_0, c371_0, e371, hx371_0, hl371_0, hi371_0⟩ := at_L1 (Kd.S_reads' HO_369001.out).2.2 x10_3 p371 q371
               cases e371
               obtain ⟨ce371, hce371, hMe371, hcc371⟩ := Kd.S_get HO_369001.out [] x10_3 p371 (by first | exact q371 | exact of_decide_eq_true (by first | (with_reducible assumption) | assumption) | (have e_ := (Kd.S_reads' HO_369001.out).1;omega))
               obtain ⟨ve371_0, rfl, ge371_0⟩ := hMe371
               have hv371_0 := hcc371 0 _ rfl
               rw [Nat.add_zero, show ((Kd.slice 3 (Kd.int .i64))).sz = 1 from rfl, Nat.mul_one] at hv371_0
               replace hv371_0 := Option.some.inj (hv371_0.symm.trans hx371_0)
               rw [hv371_0] at ge371_0
               have HL371_0 := Aside0.mk (show Kd.R (Kd.int .i64) 3 _ _ _ _ (rd_L1 t364 x10_3) from ge371_0)
               clear hv371_0 ge371_0 hcc371 hce371
               have HR371_0 := Aside0.mk hi371_0
               have HC371_0 := Aside0.mk hl371_0
               clear hi371_0 hl371_0
               replace p371 := eq_true p371
               replace q371 := eq_true q371
               have p372 : 0 ≤ (x10_3 : Int) := of_decide_eq_true (by first | (with_reducible assumption) | assumption)
               have q372 : x10_3 < (l0_1.length : Int) := of_decide_eq_true (by first | (with_reducible assumption) | assumption)
               obtain ⟨ad372, A372_0, c372_0, e372, hx372_0, hl372_0, hi372_0⟩ := at_L1 HR0_1.out x10_3 p372 q372
               have hw372_0 := hx372_0
               cases e372
               try (replace hx372_0 := (HB.out.cell (World.block_lt_of_cell? w _ hx372_0)).trans hx372_0)
               have HR372_0 := Aside0.mk hi372_0
               have HC372_0 := Aside0.mk hl372_0
               clear hi372_0 hl372_0
               replace p372 := eq_true p372
               replace q372 := eq_true q372
               refine start_ (n := 14) (S := fun w' => w'.cell? ⟨gb368, 0, none⟩ = some (.int .i64 t363) ∧ w'.cell? ⟨gb368, 1, none⟩ = some (.slice (some ad371) t364.length co68) ∧ w'.cell? ⟨gb356, 0, none⟩ = some (.int .i64 a0_0) ∧ w'.cell? ⟨gb356, 1, none⟩ = some (.slice (some ad372) l0_1.length c0_1) ∧ w'.cell? (ad371.add (x10_3).toNat) = some (.slice A371_0 (rd_L1 t364 x10_3).length c371_0) ∧ w'.cell? (ad372.add (x10_3).toNat) = some (.slice A372_0 (rd_L1 l0_1 x10_3).length c372_0)) (ds := []) #[false, false, false, false, false, false, false, false, false, false, false, false, false, false] (by kernel_rfl) rfl rfl ⟨(blk_cell BK368.out 0).trans rfl, (blk_cell BK368.out 1).trans rfl, (blk_cell BK356.out 0).trans rfl, (blk_cell BK356.out 1).trans rfl, hx371_0, ((HB.out.cell (World.block_lt_of_cell? w _ hw372_0)).trans hw372_0)⟩ (fun hHeld => ?_);refine with_tabW galoislaw23_PermgroupConjugates.tab12 galoislaw23_PermgroupConjugates.bits12 (fun HT_ HW_ => ?_)
               generalize wr.drew = w93 at HO_369001 BK356 BK368 HB HL371_0 HR371_0 HR372_0 hx371_0 hx372_0 hHeld ⊢
               refine pure_ (i := 0) (N := some 102) (v := ?_) (a' := ?_) #[true, false, false, false, false, false, false, false, false, false, false, false, false, false] rfl rfl (any_of HT_.out (by kernel_rfl)) (fun _ _ _ h => h) (Or.inl ⟨by rfl, ?_⟩) ?_ ?_
               rotate_left
               ·intro w'
                go_simp
                with_reducible rfl
               rotate_left
               ·simp only [Act.put, List.setIfInBounds_toArray, List.set_cons_zero, List.set_cons_succ, i64_w, i32_w]
                rfl
               refine pure_ (i := 2) (N := some 104) (v := ?_) (a' := ?_) #[true, false, true, false, false, false, false, false, false, false, false, false, false, false] rfl rfl (any_of HT_.out (by kernel_rfl)) (fun _ _ _ h => h) (Or.inl ⟨by rfl, ?_⟩) ?_ ?_
               rotate_left
               ·intro w'
                go_simp
                with_reducible rfl
               rotate_left
               ·simp only [Act.put, List.setIfInBounds_toArray, List.set_cons_zero, List.set_cons_succ, i64_w, i32_w]
                rfl
               refine pure_ (i := 5) (N := some 107) (v := ?_) (a' := ?_) #[true, false, true, false, false, true, false, false, false, false, false, false, false, false] rfl rfl (any_of HT_.out (by kernel_rfl)) (fun _ _ _ h => h) (Or.inl ⟨by rfl, ?_⟩) ?_ ?_
               rotate_left
               ·intro w'
                go_simp
                with_reducible rfl
               rotate_left
               ·simp only [Act.put, List.setIfInBounds_toArray, List.set_cons_zero, List.set_cons_succ, i64_w, i32_w]
                rfl
               refine pure_ (i := 7) (N := some 109) (v := ?_) (a' := ?_) #[true, false, true, false, false, true, false, true, false, false, false, false, false, false] rfl rfl (any_of HT_.out (by kernel_rfl)) (fun _ _ _ h => h) (Or.inl ⟨by rfl, ?_⟩) ?_ ?_
               rotate_left
               ·intro w'
                go_simp
                with_reducible rfl
               rotate_left
               ·simp only [Act.put, List.setIfInBounds_toArray, List.set_cons_zero, List.set_cons_succ, i64_w, i32_w]
                rfl
               refine pure_ (i := 10) (N := some 112) (v := ?_) (a' := ?_) #[true, false, true, false, false, true, false, true, false, false, true, false, false, false] rfl rfl (any_of HT_.out (by kernel_rfl)) (fun _ _ _ h => h) (Or.inl ⟨by rfl, ?_⟩) ?_ ?_
               rotate_left
               ·intro w'
                go_simp
                with_reducible rfl
               rotate_left
               ·simp only [Act.put, List.setIfInBounds_toArray, List.set_cons_zero, List.set_cons_succ, i64_w, i32_w]
                rfl
               refine take_ (i := 1) (N := some 103) (v := ?_) (a' := ?_) #[true, true, true, false, false, true, false, true, false, false, true, false, false, false] rfl rfl (take_ofW HT_.out HW_.out (by kernel_rfl)) (fun _ _ _ h => h) (Or.inl ⟨by rfl, ?_⟩) hHeld ?_ ?_
               rotate_left
               ·rintro w' ⟨s0, s1, s2, s3, s4, s5⟩
                go_simp
                with_reducible rfl
               rotate_left
               ·simp only [Act.put, List.setIfInBounds_toArray, List.set_cons_zero, List.set_cons_succ, i64_w, i32_w]
                rfl
               refine pure_ (i := 3) (N := some 105) (v := ?_) (a' := ?_) #[true, true, true, true, false, true, false, true, false, false, true, false, false, false] rfl rfl (any_of HT_.out (by kernel_rfl)) (fun _ _ _ h => h) (Or.inl ⟨by rfl, ?_⟩) ?_ ?_
               rotate_left
               ·intro w'
                go_simp
                with_reducible rfl
               rotate_left
               ·simp only [Act.put, List.setIfInBounds_toArray, List.set_cons_zero, List.set_cons_succ, i64_w, i32_w]
                rfl
               refine take_ (i := 4) (N := some 106) (v := ?_) (a' := ?_) #[true, true, true, true, true, true, false, true, false, false, true, false, false, false] rfl rfl (take_ofW HT_.out HW_.out (by kernel_rfl)) (fun _ _ _ h => h) (Or.inl ⟨by rfl, ?_⟩) hHeld ?_ ?_
               rotate_left
               ·rintro w' ⟨s0, s1, s2, s3, s4, s5⟩
                go_simp
                with_reducible rfl
               rotate_left
               ·simp only [Act.put, List.setIfInBounds_toArray, List.set_cons_zero, List.set_cons_succ, i64_w, i32_w]
                rfl
               refine take_ (i := 6) (N := some 108) (v := ?_) (a' := ?_) #[true, true, true, true, true, true, true, true, false, false, true, false, false, false] rfl rfl (take_ofW HT_.out HW_.out (by kernel_rfl)) (fun _ _ _ h => h) (Or.inl ⟨by rfl, ?_⟩) hHeld ?_ ?_
               rotate_left
               ·rintro w' ⟨s0, s1, s2, s3, s4, s5⟩
                go_simp
                with_reducible rfl
               rotate_left
               ·simp only [Act.put, List.setIfInBounds_toArray, List.set_cons_zero, List.set_cons_succ, i64_w, i32_w]
                rfl
               refine pure_ (i := 8) (N := some 110) (v := ?_) (a' := ?_) #[true, true, true, true, true, true, true, true, true, false, true, false, false, false] rfl rfl (any_of HT_.out (by kernel_rfl)) (fun _ _ _ h => h) (Or.inl ⟨by rfl, ?_⟩) ?_ ?_
               rotate_left
               ·intro w'
                go_simp
                with_reducible rfl
               rotate_left
               ·simp only [Act.put, List.setIfInBounds_toArray, List.set_cons_zero, List.set_cons_succ, i64_w, i32_w]
                rfl
               refine take_ (i := 9) (N := some 111) (v := ?_) (a' := ?_) #[true, true, true, true, true, true, true, true, true, true, true, false, false, false] rfl rfl (take_ofW HT_.out HW_.out (by kernel_rfl)) (fun _ _ _ h => h) (Or.inl ⟨by rfl, ?_⟩) hHeld ?_ ?_
               rotate_left
               ·rintro w' ⟨s0, s1, s2, s3, s4, s5⟩
                go_simp
                with_reducible rfl
               rotate_left
               ·simp only [Act.put, List.setIfInBounds_toArray, List.set_cons_zero, List.set_cons_succ, i64_w, i32_w]
                rfl
               refine one_ (i := 11) (N := some 113) #[true, true, true, true, true, true, true, true, true, true, true, true, false, false] rfl rfl (one_of HT_.out (by kernel_rfl)) (by decide) (fun K hK => ?_)
               refine goes_ Try.func33 (by kernel_rfl) rfl #[.slice A372_0 (rd_L1 l0_1 x10_3).length c372_0, .slice A1 l1.length c1] (by rfl) rfl rfl (by (try simp only [List.map_toArray, List.map_cons, List.map_nil]);first | done | rfl | (simp only [List.length_drop, List.length_take];rfl)) ?_
               with_reducible refine (galoisref22_Conjugate.calls k3 _ _ (rd_L1 l0_1 x10_3) _ _ l1 t373 _ ?side1 ?side2 ?side3 ?side4 A83.out).mono ?_
               (case side1 => repeat (first|exact (Kd.C_below HR372_0.out HB.out) | (with_reducible refine Kd.C_alloc ?_ _) | (with_reducible refine Kd.C_drewN ?_ _) | (with_reducible refine Kd.C_drew ?_)))
               (case side2 => exact HC372_0.out)
               (case side3 => repeat (first|exact (Kd.C_below HR1.out HB.out) | (with_reducible refine Kd.C_alloc ?_ _) | (with_reducible refine Kd.C_drewN ?_ _) | (with_reducible refine Kd.C_drew ?_)))
               (case side4 => exact HC1.out)
               rintro e w94 ⟨v374, rfl, ho0, hb⟩
               have HS4_ := (hb.cell (World.block_lt_of_cell? _ _ (hHeld.2.2.2.2.1))).trans (hHeld.2.2.2.2.1)
               refine ⟨_, rfl, ?_⟩
               have n0_ := Aside0.mk (Kd.S_elder' (by (with_reducible repeat (first|apply Kd.S_alloc | apply Kd.S_drewN | apply Kd.S_drew));exact HO_369001.out) (Kd.R_base ho0) hb)
               have n1_ := Aside0.mk (Kd.R_elder' (by (with_reducible repeat (first|apply Kd.R_alloc | apply Kd.R_drewN | apply Kd.R_drew));exact HL371_0.out) (Kd.R_base ho0) hb)
               have n2_ := Aside0.mk (Kd.R_lower (Kd.R_new' ho0 (Kd.R_lt (by (with_reducible repeat (first|apply Kd.R_alloc | apply Kd.R_drewN | apply Kd.R_drew));exact HL371_0.out))) (below_size (by repeat (first|(with_reducible first | exact HB.out | apply below_alloc | apply pw_below_drewN | apply below_drew1 | refine below_set ?_ GE356.out | refine below_set ?_ GE368.out) | exact HB.out))))
               have n3_ := Aside0.mk (blk_below (g := gb356) (o := .cells #[.int .i64 a0_0, .slice (some ad372) l0_1.length c0_1] 24 (0, 0)) (by (with_reducible repeat (first|refine blk_drewN ?_ _ | refine blk_drew ?_ | refine blk_alloc ?_ _));exact BK356.out) hb)
               have n4_ := Aside0.mk (blk_below (g := gb368) (o := .cells #[.int .i64 t363, .slice (some ad371) t364.length co68] 24 (0, 0)) (by (with_reducible repeat (first|refine blk_drewN ?_ _ | refine blk_drew ?_ | refine blk_alloc ?_ _));exact BK368.out) hb)
               have n5_ := Aside0.mk (Kd.C_below (by repeat (first|(with_reducible exact HR371_0.out) | (with_reducible refine Kd.C_alloc ?_ _) | (with_reducible refine Kd.C_drewN ?_ _) | (with_reducible refine Kd.C_drew ?_) | exact HR371_0.out)) hb)
               have n6_ := Aside0.mk (below_step (by repeat (first|(with_reducible first | exact HB.out | apply below_alloc | apply pw_below_drewN | apply below_drew1 | refine below_set ?_ GE356.out | refine below_set ?_ GE368.out) | exact HB.out)) hb)
               clear HO_369001 HL371_0 BK356 BK368 HR371_0 HB
               have HO_369001 := n0_
               have HL371_0 := n1_
               have HO375 := n2_
               have BK356 := n3_
               have BK368 := n4_
               have HR371_0 := n5_
               have HB := n6_
               clear n0_ n1_ n2_ n3_ n4_ n5_ n6_
               (try clear hb)
               (try clear hb2)
               (try clear hk)
               (try clear hi)
               (try clear ho0)
               obtain ⟨Ao95, co95, eo95⟩ := Kd.R_slice HO375.out
               (first|subst eo95 | (injection eo95 with f1_ f2_ f3_;have f4_ := f1_.symm;have f5_ := f3_.symm;clear f1_ f2_ f3_;subst f4_;subst f5_))
               refine hK.out _ _ ⟨(blk_cell BK368.out 0).trans rfl, (blk_cell BK368.out 1).trans rfl, (blk_cell BK356.out 0).trans rfl, (blk_cell BK356.out 1).trans rfl, HS4_, ((HB.out.cell (World.block_lt_of_cell? w _ hw372_0)).trans hw372_0)⟩ (fun hHeld => ?_)
               clear hK K
               refine norm_ (a' := ?_) ?_ ?_
               rotate_left
               ·show Act.put _ (some 113) _ = _
                simp only [Act.put, List.setIfInBounds_toArray, List.set_cons_zero, List.set_cons_succ, i64_w, i32_w]
                rfl
               refine one_ (i := 12) (N := some 114) #[true, true, true, true, true, true, true, true, true, true, true, true, true, false] rfl rfl (one_of HT_.out (by kernel_rfl)) (by decide) (fun K hK => ?_)
               refine goes_ Try.func27 (by kernel_rfl) rfl #[.slice A371_0 (rd_L1 t364 x10_3).length c371_0, .slice Ao95 t373.length co95] (by rfl) rfl rfl (by (try simp only [List.map_toArray, List.map_cons, List.map_nil]);first | done | rfl | (simp only [List.length_drop, List.length_take];rfl)) ?_
               with_reducible refine (galoisref22_Same.calls k3 _ _ (rd_L1 t364 x10_3) _ _ t373 false _ ?side1 ?side2 ?side3 ?side4 A84.out).mono ?_
               (case side1 => repeat (first|exact (by repeat (first|(with_reducible exact HR371_0.out) | (with_reducible refine Kd.C_alloc ?_ _) | (with_reducible refine Kd.C_drewN ?_ _) | (with_reducible refine Kd.C_drew ?_) | exact HR371_0.out)) | (with_reducible refine Kd.C_alloc ?_ _) | (with_reducible refine Kd.C_drewN ?_ _) | (with_reducible refine Kd.C_drew ?_)))
               (case side2 => exact HC371_0.out)
               (case side3 => repeat (first|exact (Kd.R_reads' HO375.out).2.2 | (with_reducible refine Kd.C_alloc ?_ _) | (with_reducible refine Kd.C_drewN ?_ _) | (with_reducible refine Kd.C_drew ?_)))
               (case side4 => exact (Kd.R_reads' HO375.out).2.1)
               rintro e w' ⟨rfl, ⟨nd, rfl⟩⟩
               refine ⟨_, rfl, ?_⟩
               refine hK.out _ _ ⟨(blk_cell BK368.out 0).trans rfl, (blk_cell BK368.out 1).trans rfl, (blk_cell BK356.out 0).trans rfl, (blk_cell BK356.out 1).trans rfl, hHeld.2.2.2.2.1, ((HB.out.cell (World.block_lt_of_cell? w _ hw372_0)).trans hw372_0)⟩ (fun hHeld => ?_)
               clear hK K
               refine norm_ (a' := ?_) ?_ ?_
               rotate_left
               ·show Act.put _ (some 114) _ = _
                simp only [Act.put, List.setIfInBounds_toArray, List.set_cons_zero, List.set_cons_succ, i64_w, i32_w]
                rfl
               refine pure_ (i := 13) (N := some 115) (v := ?_) (a' := ?_) #[true, true, true, true, true, true, true, true, true, true, true, true, true, true] rfl rfl (any_of HT_.out (by kernel_rfl)) (fun _ _ _ h => h) (Or.inl ⟨by rfl, ?_⟩) ?_ ?_
               rotate_left
               ·intro w'
                go_simp
                with_reducible rfl
               rotate_left
               ·simp only [Act.put, List.setIfInBounds_toArray, List.set_cons_zero, List.set_cons_succ, i64_w, i32_w]
                rfl
               refine done_ (done_of HT_.out (by kernel_rfl)) ?_
               try go_wp2
               go_ret
               exact ⟨by first | rfl | (simp [errW_none, errW_some] <;> rfl) | (simp [*, errW_none, errW_some] <;> rfl), by repeat (first|(with_reducible first | exact HB.out | apply below_alloc | apply pw_below_drewN | apply below_drew1 | refine below_set ?_ GE356.out | refine below_set ?_ GE368.out) | exact HB.out)⟩
             ·rw [if_neg c82] at H
              exact absurd H (by simp)
            ·rw [if_neg c81] at H
             exact absurd H (by simp)
           ·rw [if_neg c80] at H
            have c80b0 : decide (x10_3 < (t364.length : Int)) = false := decide_eq_false c80
            clear c80
            replace H := Option.bind_eq_some_iff.mp H
            obtain ⟨⟨t377, t378⟩, A960, H⟩ := H
            replace H : ((permgroup_Order.f k3 t363 t364).bind fun bt379 => ((galoisref22_Inverse.f k3 l1).bind fun t381 => ((permgroup_Conjugate.f k3 t363 t364 t381).bind fun bt384 => ((permgroup_Same.f k3 bt384.1 bt384.2.1 a0_0 l0_1).bind fun bt390 => (if t378 = 0 then (if bt379.2 = 0 then (if t377 = bt379.1 then (if bt384.2.2 = 0 then (if bt390.2 = 0 then (galoislaw23_PermgroupConjugates.j3 k3 l1 l2 (!bt390.1) a0_0 l0_1 t363 t364) else (galoislaw23_PermgroupConjugates.j3 k3 l1 l2 true a0_0 l0_1 t363 t364)) else (galoislaw23_PermgroupConjugates.j3 k3 l1 l2 true a0_0 l0_1 t363 t364)) else (galoislaw23_PermgroupConjugates.j3 k3 l1 l2 true a0_0 l0_1 t363 t364)) else (galoislaw23_PermgroupConjugates.j3 k3 l1 l2 true a0_0 l0_1 t363 t364)) else (galoislaw23_PermgroupConjugates.j3 k3 l1 l2 true a0_0 l0_1 t363 t364)))))) = some r := H
            have A96 := Aside0.mk A960
            clear A960
            replace H := Option.bind_eq_some_iff.mp H
            obtain ⟨⟨t379, t380⟩, A970, H⟩ := H
            replace H : ((galoisref22_Inverse.f k3 l1).bind fun t381 => ((permgroup_Conjugate.f k3 t363 t364 t381).bind fun bt384 => ((permgroup_Same.f k3 bt384.1 bt384.2.1 a0_0 l0_1).bind fun bt390 => (if t378 = 0 then (if t380 = 0 then (if t377 = t379 then (if bt384.2.2 = 0 then (if bt390.2 = 0 then (galoislaw23_PermgroupConjugates.j3 k3 l1 l2 (!bt390.1) a0_0 l0_1 t363 t364) else (galoislaw23_PermgroupConjugates.j3 k3 l1 l2 true a0_0 l0_1 t363 t364)) else (galoislaw23_PermgroupConjugates.j3 k3 l1 l2 true a0_0 l0_1 t363 t364)) else (galoislaw23_PermgroupConjugates.j3 k3 l1 l2 true a0_0 l0_1 t363 t364)) else (galoislaw23_PermgroupConjugates.j3 k3 l1 l2 true a0_0 l0_1 t363 t364)) else (galoislaw23_PermgroupConjugates.j3 k3 l1 l2 true a0_0 l0_1 t363 t364))))) = some r := H
            have A97 := Aside0.mk A970
            clear A970
            replace H := Option.bind_eq_some_iff.mp H
            obtain ⟨t381, A980, H⟩ := H
            replace H : ((permgroup_Conjugate.f k3 t363 t364 t381).bind fun bt384 => ((permgroup_Same.f k3 bt384.1 bt384.2.1 a0_0 l0_1).bind fun bt390 => (if t378 = 0 then (if t380 = 0 then (if t377 = t379 then (if bt384.2.2 = 0 then (if bt390.2 = 0 then (galoislaw23_PermgroupConjugates.j3 k3 l1 l2 (!bt390.1) a0_0 l0_1 t363 t364) else (galoislaw23_PermgroupConjugates.j3 k3 l1 l2 true a0_0 l0_1 t363 t364)) else (galoislaw23_PermgroupConjugates.j3 k3 l1 l2 true a0_0 l0_1 t363 t364)) else (galoislaw23_PermgroupConjugates.j3 k3 l1 l2 true a0_0 l0_1 t363 t364)) else (galoislaw23_PermgroupConjugates.j3 k3 l1 l2 true a0_0 l0_1 t363 t364)) else (galoislaw23_PermgroupConjugates.j3 k3 l1 l2 true a0_0 l0_1 t363 t364)))) = some r := H
            have A98 := Aside0.mk A980
            clear A980
            replace H := Option.bind_eq_some_iff.mp H
            obtain ⟨⟨t384, t385, t388⟩, A990, H⟩ := H
            replace H : ((permgroup_Same.f k3 t384 t385 a0_0 l0_1).bind fun bt390 => (if t378 = 0 then (if t380 = 0 then (if t377 = t379 then (if t388 = 0 then (if bt390.2 = 0 then (galoislaw23_PermgroupConjugates.j3 k3 l1 l2 (!bt390.1) a0_0 l0_1 t363 t364) else (galoislaw23_PermgroupConjugates.j3 k3 l1 l2 true a0_0 l0_1 t363 t364)) else (galoislaw23_PermgroupConjugates.j3 k3 l1 l2 true a0_0 l0_1 t363 t364)) else (galoislaw23_PermgroupConjugates.j3 k3 l1 l2 true a0_0 l0_1 t363 t364)) else (galoislaw23_PermgroupConjugates.j3 k3 l1 l2 true a0_0 l0_1 t363 t364)) else (galoislaw23_PermgroupConjugates.j3 k3 l1 l2 true a0_0 l0_1 t363 t364))) = some r := H
            have A99 := Aside0.mk A990
            clear A990
            replace H := Option.bind_eq_some_iff.mp H
            obtain ⟨⟨t390, t391⟩, A1000, H⟩ := H
            replace H : (if t378 = 0 then (if t380 = 0 then (if t377 = t379 then (if t388 = 0 then (if t391 = 0 then (galoislaw23_PermgroupConjugates.j3 k3 l1 l2 (!t390) a0_0 l0_1 t363 t364) else (galoislaw23_PermgroupConjugates.j3 k3 l1 l2 true a0_0 l0_1 t363 t364)) else (galoislaw23_PermgroupConjugates.j3 k3 l1 l2 true a0_0 l0_1 t363 t364)) else (galoislaw23_PermgroupConjugates.j3 k3 l1 l2 true a0_0 l0_1 t363 t364)) else (galoislaw23_PermgroupConjugates.j3 k3 l1 l2 true a0_0 l0_1 t363 t364)) else (galoislaw23_PermgroupConjugates.j3 k3 l1 l2 true a0_0 l0_1 t363 t364)) = some r := H
            have A100 := Aside0.mk A1000
            clear A1000
            have HC101 := Aside0.mk H
            clear H
            have hnb102 := NB368_356.out
            have hnc102 := NB356_368.out
            have hcz103_0 : wr.cell? ⟨gb368, 0, none⟩ = some (.int .i64 t363) := (blk_cell BK368.out 0).trans rfl
            have hcz103_1 : wr.cell? ⟨gb368, 1, none⟩ = some (.slice Ao68 t364.length co68) := (blk_cell BK368.out 1).trans rfl
            have hfz103_0 := blk_frozen BK368.out 0
            have hfz103_1 := blk_frozen BK368.out 1
            have hcz104_0 : wr.cell? ⟨gb356, 0, none⟩ = some (.int .i64 a0_0) := (blk_cell BK356.out 0).trans rfl
            have hcz104_1 : wr.cell? ⟨gb356, 1, none⟩ = some (.slice A0_1 l0_1.length c0_1) := (blk_cell BK356.out 1).trans rfl
            have hfz104_0 := blk_frozen BK356.out 0
            have hfz104_1 := blk_frozen BK356.out 1
            try go_wp2_with (first|((with_reducible refine gate_callee (f := 12) rfl ?_);refine goesL_ (some 118) rfl rfl Try.func12 (by kernel_rfl) rfl #[.agg #[.int .i64 a0_0, .slice A0_1 l0_1.length c0_1]] rfl (by (try simp only [List.map_toArray, List.map_cons, List.map_nil]);first | done | rfl | (simp only [List.length_drop, List.length_take];rfl)) ?_;(with_reducible refine (permgroup_Order.calls k3 a0_0 _ _ l0_1 t377 t378 _ ?side1 ?side2 A96.out).mono ?_);(case side1 => repeat (first|exact (Kd.C_below HR0_1.out HB.out) | (with_reducible refine Kd.C_alloc ?_ _) | (with_reducible refine Kd.C_drewN ?_ _) | (with_reducible refine Kd.C_drew ?_)));(case side2 => exact HC0_1.out);rintro e w105 ⟨rfl, hb⟩;refine ⟨_, rfl, ?_⟩;have n0_ := Aside0.mk (Kd.S_below (by (with_reducible repeat (first|apply Kd.S_alloc | apply Kd.S_drewN | apply Kd.S_drew));exact HO_369001.out) hb);have n1_ := Aside0.mk (blk_below (g := gb356) (o := .cells #[.int .i64 a0_0, .slice A0_1 l0_1.length c0_1] 24 (0, 0)) (by (with_reducible repeat (first|refine blk_drewN ?_ _ | refine blk_drew ?_ | refine blk_alloc ?_ _));exact BK356.out) hb);have n2_ := Aside0.mk (blk_below (g := gb368) (o := .cells #[.int .i64 t363, .slice Ao68 t364.length co68] 24 (0, 0)) (by (with_reducible repeat (first|refine blk_drewN ?_ _ | refine blk_drew ?_ | refine blk_alloc ?_ _));exact BK368.out) hb);have n3_ := Aside0.mk (below_step (by repeat (first|(with_reducible first | exact HB.out | apply below_alloc | apply pw_below_drewN | apply below_drew1 | refine below_set ?_ GE356.out | refine below_set ?_ GE368.out) | exact HB.out)) hb);clear HO_369001;clear BK356;clear BK368;clear HB;have HO_369001 := n0_;have BK356 := n1_;have BK368 := n2_;have HB := n3_;clear n0_ n1_ n2_ n3_;(try clear hb);(try clear hb2);(try clear hk);(try clear hi);have hcz106_0 : w105.cell? ⟨gb368, 0, none⟩ = some (.int .i64 t363) := (blk_cell BK368.out 0).trans rfl;have hcz106_1 : w105.cell? ⟨gb368, 1, none⟩ = some (.slice Ao68 t364.length co68) := (blk_cell BK368.out 1).trans rfl;have hfz106_0 := blk_frozen BK368.out 0;have hfz106_1 := blk_frozen BK368.out 1) | ((with_reducible refine gate_callee (f := 12) rfl ?_);refine goesL_ (some 123) rfl rfl Try.func12 (by kernel_rfl) rfl #[.agg #[.int .i64 t363, .slice Ao68 t364.length co68]] rfl (by (try simp only [List.map_toArray, List.map_cons, List.map_nil]);first | done | rfl | (simp only [List.length_drop, List.length_take];rfl)) ?_;(with_reducible refine (permgroup_Order.calls k3 t363 _ _ t364 t379 t380 _ ?side1 ?side2 A97.out).mono ?_);(case side1 => repeat (first|exact (Kd.S_reads' HO_369001.out).2.2 | (with_reducible refine Kd.C_alloc ?_ _) | (with_reducible refine Kd.C_drewN ?_ _) | (with_reducible refine Kd.C_drew ?_)));(case side2 => exact (Kd.S_reads' HO_369001.out).2.1);rintro e w107 ⟨rfl, hb⟩;refine ⟨_, rfl, ?_⟩;have n0_ := Aside0.mk (Kd.S_below (by (with_reducible repeat (first|apply Kd.S_alloc | apply Kd.S_drewN | apply Kd.S_drew));exact HO_369001.out) hb);have n1_ := Aside0.mk (blk_below (g := gb356) (o := .cells #[.int .i64 a0_0, .slice A0_1 l0_1.length c0_1] 24 (0, 0)) (by (with_reducible repeat (first|refine blk_drewN ?_ _ | refine blk_drew ?_ | refine blk_alloc ?_ _));exact BK356.out) hb);have n2_ := Aside0.mk (blk_below (g := gb368) (o := .cells #[.int .i64 t363, .slice Ao68 t364.length co68] 24 (0, 0)) (by (with_reducible repeat (first|refine blk_drewN ?_ _ | refine blk_drew ?_ | refine blk_alloc ?_ _));exact BK368.out) hb);have n3_ := Aside0.mk (below_step (by repeat (first|(with_reducible first | exact HB.out | apply below_alloc | apply pw_below_drewN | apply below_drew1 | refine below_set ?_ GE356.out | refine below_set ?_ GE368.out) | exact HB.out)) hb);clear HO_369001;clear BK356;clear BK368;clear HB;have HO_369001 := n0_;have BK356 := n1_;have BK368 := n2_;have HB := n3_;clear n0_ n1_ n2_ n3_;(try clear hb);(try clear hb2);(try clear hk);(try clear hi)))
            have n0_ := Aside0.mk (Kd.S_drew HO_369001.out)
            have n1_ := Aside0.mk (blk_drew BK356.out)
            have n2_ := Aside0.mk (blk_drew BK368.out)
            have n3_ := Aside0.mk (below_drew1 HB.out)
            clear HO_369001 BK356 BK368 HB
            have HO_369001 := n0_
            have BK356 := n1_
            have BK368 := n2_
            have HB := n3_
            clear n0_ n1_ n2_ n3_
            refine start_ (n := 10) (S := fun w' => w'.cell? ⟨gb368, 0, none⟩ = some (.int .i64 t363) ∧ w'.cell? ⟨gb368, 1, none⟩ = some (.slice Ao68 t364.length co68)) (ds := []) #[false, false, false, false, false, false, false, false, false, false] (by kernel_rfl) rfl rfl ⟨(blk_cell BK368.out 0).trans rfl, (blk_cell BK368.out 1).trans rfl⟩ (fun hHeld => ?_);refine with_tabW galoislaw23_PermgroupConjugates.tab16 galoislaw23_PermgroupConjugates.bits16 (fun HT_ HW_ => ?_)
            generalize w107.drew = w108 at HO_369001 BK356 BK368 HB hHeld ⊢
            refine pure_ (i := 1) (N := some 128) (v := ?_) (a' := ?_) #[false, true, false, false, false, false, false, false, false, false] rfl rfl (any_of HT_.out (by kernel_rfl)) (fun _ _ _ h => h) (Or.inl ⟨by rfl, ?_⟩) ?_ ?_
            rotate_left
            ·intro w'
             go_simp
             with_reducible rfl
            rotate_left
            ·simp only [Act.put, List.setIfInBounds_toArray, List.set_cons_zero, List.set_cons_succ, i64_w, i32_w]
             rfl
            refine take_ (i := 0) (N := some 127) (v := ?_) (a' := ?_) #[true, true, false, false, false, false, false, false, false, false] rfl rfl (take_ofW HT_.out HW_.out (by kernel_rfl)) (fun _ _ _ h => h) (Or.inl ⟨by rfl, ?_⟩) hHeld ?_ ?_
            rotate_left
            ·rintro w' ⟨s0, s1⟩
             go_simp
             with_reducible rfl
            rotate_left
            ·simp only [Act.put, List.setIfInBounds_toArray, List.set_cons_zero, List.set_cons_succ, i64_w, i32_w]
             rfl
            refine join_ (σ := Value × Value × Nat) 2 #[true, true, true, true, true, true, true, true, false, false] (fun s_ => [(129, s_.1), (130, .tuple #[.agg #[.int .i64 t384, s_.2.1], .int .i64 t388]), (14, .pointer (some ⟨s_.2.2, 0, none⟩)), (126, .tuple #[.agg #[.int .i64 t384, s_.2.1], .int .i64 t388]), (131, .agg #[.int .i64 t384, s_.2.1]), (132, .int .i64 t388)]) (fun s_ w' => (w'.cell? ⟨gb368, 0, none⟩ = some (.int .i64 t363) ∧ w'.cell? ⟨gb368, 1, none⟩ = some (.slice Ao68 t364.length co68)) ∧ (Kd.R (Kd.int .i64) 3 w' w.heap.size (fun _ => True) s_.1 t381) ∧ (Kd.S (Kd.slice 3 (Kd.int .i64)) 47 w' w.heap.size (fun k_ => some k_ ≠ (s_.1 : Value).ownBlock ∧ some k_ ≠ (.slice Ao68 t364.length co68 : Value).ownBlock) s_.2.1 t385) ∧ (Kd.S (Kd.slice 3 (Kd.int .i64)) 47 w' w.heap.size (fun k_ => some k_ ≠ (s_.1 : Value).ownBlock ∧ some k_ ≠ (s_.2.1 : Value).ownBlock) (.slice Ao68 t364.length co68) t364) ∧ (w'.heap[gb356]? = some (.cells #[.int .i64 a0_0, .slice A0_1 l0_1.length c0_1] 24 (0, 0))) ∧ (w'.heap[gb368]? = some (.cells #[.int .i64 t363, .slice Ao68 t364.length co68] 24 (0, 0))) ∧ (w'.heap[s_.2.2]? = some (.cells #[.int .i64 0, .slice none 0 0] 24 (0, 0))) ∧ (w.heap.size ≤ s_.2.2) ∧ (w.heap.size ≤ s_.2.2) ∧ (gb356 ≠ s_.2.2) ∧ (s_.2.2 ≠ gb356) ∧ (gb368 ≠ s_.2.2) ∧ (s_.2.2 ≠ gb368) ∧ (Below w.heap.size w w')) ?_ ?_
            rotate_left
            ·intro hCont
             refine two_ (i := 2) (j := 7) (Ni := some 129) (Nj := some 14) #[true, true, true, false, false, false, false, false, false, false] #[true, true, false, false, false, false, false, true, false, false] rfl rfl rfl rfl (two_of HT_.out (by kernel_rfl)) (by decide) (by decide) (fun K hK => ?_) (fun K hK => ?_)
             ·skip
              refine goes_ Try.func34 (by kernel_rfl) rfl #[.slice A1 l1.length c1] (by rfl) rfl rfl (by (try simp only [List.map_toArray, List.map_cons, List.map_nil]);first | done | rfl | (simp only [List.length_drop, List.length_take];rfl)) ?_
              with_reducible refine (galoisref22_Inverse.calls k3 _ _ l1 t381 _ ?side1 ?side2 A98.out).mono ?_
              (case side1 => repeat (first|exact (Kd.C_below HR1.out HB.out) | (with_reducible refine Kd.C_alloc ?_ _) | (with_reducible refine Kd.C_drewN ?_ _) | (with_reducible refine Kd.C_drew ?_)))
              (case side2 => exact HC1.out)
              rintro e w109 ⟨v382, rfl, ho0, hb⟩
              refine ⟨_, rfl, ?_⟩
              have n0_ := Aside0.mk (Kd.S_elder' (by (with_reducible repeat (first|apply Kd.S_alloc | apply Kd.S_drewN | apply Kd.S_drew));exact HO_369001.out) (Kd.R_base ho0) hb)
              have n1_ := Aside0.mk (Kd.R_lower ho0 (below_size (by repeat (first|(with_reducible first | exact HB.out | apply below_alloc | apply pw_below_drewN | apply below_drew1 | refine below_set ?_ GE356.out | refine below_set ?_ GE368.out) | exact HB.out))))
              have n2_ := Aside0.mk (blk_below (g := gb356) (o := .cells #[.int .i64 a0_0, .slice A0_1 l0_1.length c0_1] 24 (0, 0)) (by (with_reducible repeat (first|refine blk_drewN ?_ _ | refine blk_drew ?_ | refine blk_alloc ?_ _));exact BK356.out) hb)
              have n3_ := Aside0.mk (blk_below (g := gb368) (o := .cells #[.int .i64 t363, .slice Ao68 t364.length co68] 24 (0, 0)) (by (with_reducible repeat (first|refine blk_drewN ?_ _ | refine blk_drew ?_ | refine blk_alloc ?_ _));exact BK368.out) hb)
              have n4_ := Aside0.mk (below_step (by repeat (first|(with_reducible first | exact HB.out | apply below_alloc | apply pw_below_drewN | apply below_drew1 | refine below_set ?_ GE356.out | refine below_set ?_ GE368.out) | exact HB.out)) hb)
              clear HO_369001 BK356 BK368 HB
              have HO_369001 := n0_
              have HO383 := n1_
              have BK356 := n2_
              have BK368 := n3_
              have HB := n4_
              clear n0_ n1_ n2_ n3_ n4_
              (try clear hb)
              (try clear hb2)
              (try clear hk)
              (try clear hi)
              (try clear ho0)
              obtain ⟨Ao110, co110, eo110⟩ := Kd.R_slice HO383.out
              (first|subst eo110 | (injection eo110 with f1_ f2_ f3_;have f4_ := f1_.symm;have f5_ := f3_.symm;clear f1_ f2_ f3_;subst f4_;subst f5_))
              refine hK.out _ _ ⟨(blk_cell BK368.out 0).trans rfl, (blk_cell BK368.out 1).trans rfl⟩ (fun hHeld => ?_)
              clear hK K
              refine norm_ (a' := ?_) ?_ ?_
              rotate_left
              ·show Act.put _ (some 129) _ = _
               simp only [Act.put, List.setIfInBounds_toArray, List.set_cons_zero, List.set_cons_succ, i64_w, i32_w]
               rfl
              refine two_ (i := 3) (j := 7) (Ni := some 130) (Nj := some 14) #[true, true, true, true, false, false, false, false, false, false] #[true, true, true, false, false, false, false, true, false, false] rfl rfl rfl rfl (two_of HT_.out (by kernel_rfl)) (by decide) (by decide) (fun K hK => ?_) (fun K hK => ?_)
              ·skip
               refine goes_ Try.func32 (by kernel_rfl) rfl #[.agg #[.int .i64 t363, .slice Ao68 t364.length co68], .slice Ao110 t381.length co110] (by rfl) rfl rfl (by (try simp only [List.map_toArray, List.map_cons, List.map_nil]);first | done | rfl | (simp only [List.length_drop, List.length_take];rfl)) ?_
               with_reducible refine (permgroup_Conjugate.calls k3 t363 _ _ t364 _ _ t381 t384 t385 t388 _ ?side1 ?side2 ?side3 ?side4 A99.out).mono ?_
               (case side1 => repeat (first|exact (Kd.S_reads' HO_369001.out).2.2 | (with_reducible refine Kd.C_alloc ?_ _) | (with_reducible refine Kd.C_drewN ?_ _) | (with_reducible refine Kd.C_drew ?_)))
               (case side2 => exact (Kd.S_reads' HO_369001.out).2.1)
               (case side3 => repeat (first|exact (Kd.R_reads' HO383.out).2.2 | (with_reducible refine Kd.C_alloc ?_ _) | (with_reducible refine Kd.C_drewN ?_ _) | (with_reducible refine Kd.C_drew ?_)))
               (case side4 => exact (Kd.R_reads' HO383.out).2.1)
               rintro e w111 ⟨v386, rfl, ho0, hb⟩
               refine ⟨_, rfl, ?_⟩
               have n0_ := Aside0.mk (Kd.S_elder' (by (with_reducible repeat (first|apply Kd.S_alloc | apply Kd.S_drewN | apply Kd.S_drew));exact HO_369001.out) (Kd.S_base ho0) hb)
               have n1_ := Aside0.mk (Kd.R_below (by (with_reducible repeat (first|apply Kd.R_alloc | apply Kd.R_drewN | apply Kd.R_drew));exact HO383.out) hb)
               have n2_ := Aside0.mk (Kd.S_lower (Kd.S_new' (Kd.S_new' ho0 (Kd.S_lt (by (with_reducible repeat (first|apply Kd.S_alloc | apply Kd.S_drewN | apply Kd.S_drew));exact HO_369001.out))) (Kd.R_lt (by (with_reducible repeat (first|apply Kd.R_alloc | apply Kd.R_drewN | apply Kd.R_drew));exact HO383.out))) (below_size (by repeat (first|(with_reducible first | exact HB.out | apply below_alloc | apply pw_below_drewN | apply below_drew1 | refine below_set ?_ GE356.out | refine below_set ?_ GE368.out) | exact HB.out))))
               have n3_ := Aside0.mk (blk_below (g := gb356) (o := .cells #[.int .i64 a0_0, .slice A0_1 l0_1.length c0_1] 24 (0, 0)) (by (with_reducible repeat (first|refine blk_drewN ?_ _ | refine blk_drew ?_ | refine blk_alloc ?_ _));exact BK356.out) hb)
               have n4_ := Aside0.mk (blk_below (g := gb368) (o := .cells #[.int .i64 t363, .slice Ao68 t364.length co68] 24 (0, 0)) (by (with_reducible repeat (first|refine blk_drewN ?_ _ | refine blk_drew ?_ | refine blk_alloc ?_ _));exact BK368.out) hb)
               have n5_ := Aside0.mk (below_step (by repeat (first|(with_reducible first | exact HB.out | apply below_alloc | apply pw_below_drewN | apply below_drew1 | refine below_set ?_ GE356.out | refine below_set ?_ GE368.out) | exact HB.out)) hb)
               clear HO_369001 HO383 BK356 BK368 HB
               have HO_369001 := n0_
               have HO383 := n1_
               have HO387 := n2_
               have BK356 := n3_
               have BK368 := n4_
               have HB := n5_
               clear n0_ n1_ n2_ n3_ n4_ n5_
               (try clear hb)
               (try clear hb2)
               (try clear hk)
               (try clear hi)
               (try clear ho0)
               refine hK.out _ _ ⟨(blk_cell BK368.out 0).trans rfl, (blk_cell BK368.out 1).trans rfl⟩ (fun hHeld => ?_)
               clear hK K
               refine norm_ (a' := ?_) ?_ ?_
               rotate_left
               ·show Act.put _ (some 130) _ = _
                simp only [Act.put, List.setIfInBounds_toArray, List.set_cons_zero, List.set_cons_succ, i64_w, i32_w]
                rfl
               refine pure_ (i := 4) (N := some 126) (v := ?_) (a' := ?_) #[true, true, true, true, true, false, false, false, false, false] rfl rfl (any_of HT_.out (by kernel_rfl)) (fun _ _ _ h => h) (Or.inl ⟨by rfl, ?_⟩) ?_ ?_
               rotate_left
               ·intro w'
                go_simp
                with_reducible rfl
               rotate_left
               ·simp only [Act.put, List.setIfInBounds_toArray, List.set_cons_zero, List.set_cons_succ, i64_w, i32_w]
                rfl
               refine pure_ (i := 5) (N := some 131) (v := ?_) (a' := ?_) #[true, true, true, true, true, true, false, false, false, false] rfl rfl (any_of HT_.out (by kernel_rfl)) (fun _ _ _ h => h) (Or.inl ⟨by rfl, ?_⟩) ?_ ?_
               rotate_left
               ·intro w'
                go_simp
                with_reducible rfl
               rotate_left
               ·simp only [Act.put, List.setIfInBounds_toArray, List.set_cons_zero, List.set_cons_succ, i64_w, i32_w]
                rfl
               refine pure_ (i := 6) (N := some 132) (v := ?_) (a' := ?_) #[true, true, true, true, true, true, true, false, false, false] rfl rfl (any_of HT_.out (by kernel_rfl)) (fun _ _ _ h => h) (Or.inl ⟨by rfl, ?_⟩) ?_ ?_
               rotate_left
               ·intro w'
                go_simp
                with_reducible rfl
               rotate_left
               ·simp only [Act.put, List.setIfInBounds_toArray, List.set_cons_zero, List.set_cons_succ, i64_w, i32_w]
                rfl
               refine one_ (i := 7) (N := some 14) #[true, true, true, true, true, true, true, true, false, false] rfl rfl (one_of HT_.out (by kernel_rfl)) (by decide) (fun K hK => ?_)
               refine box_step ?hg (N := 14) ?hd (cs := #[.int .i64 0, .slice none 0 0]) (t := 24) ?hr ?_;(case hd => rfl);(case hg => rfl);(case hr => first | (go_simp;done) | (go_simp;rfl))
               intro gb389 hg w112 hbox hb
               have n0_ := Aside0.mk (Kd.S_below (by (with_reducible repeat (first|apply Kd.S_alloc | apply Kd.S_drewN | apply Kd.S_drew));exact HO_369001.out) hb)
               have n1_ := Aside0.mk (Kd.R_below (by (with_reducible repeat (first|apply Kd.R_alloc | apply Kd.R_drewN | apply Kd.R_drew));exact HO383.out) hb)
               have n2_ := Aside0.mk (Kd.S_below (by (with_reducible repeat (first|apply Kd.S_alloc | apply Kd.S_drewN | apply Kd.S_drew));exact HO387.out) hb)
               have n3_ := Aside0.mk (blk_below (g := gb356) (o := .cells #[.int .i64 a0_0, .slice A0_1 l0_1.length c0_1] 24 (0, 0)) (by (with_reducible repeat (first|refine blk_drewN ?_ _ | refine blk_drew ?_ | refine blk_alloc ?_ _));exact BK356.out) hb)
               have n4_ := Aside0.mk (blk_below (g := gb368) (o := .cells #[.int .i64 t363, .slice Ao68 t364.length co68] 24 (0, 0)) (by (with_reducible repeat (first|refine blk_drewN ?_ _ | refine blk_drew ?_ | refine blk_alloc ?_ _));exact BK368.out) hb)
               have n5_ := Aside0.mk (below_step (by repeat (first|(with_reducible first | exact HB.out | apply below_alloc | apply pw_below_drewN | apply below_drew1 | refine below_set ?_ GE356.out | refine below_set ?_ GE368.out) | exact HB.out)) hb)
               have n6_ := Aside0.mk (hbox)
               have n7_ := Aside0.mk ((by rw [hg];exact (below_size (by repeat (first|(with_reducible first | exact HB.out | apply below_alloc | apply pw_below_drewN | apply below_drew1 | refine below_set ?_ GE356.out | refine below_set ?_ GE368.out) | exact HB.out))) : w.heap.size ≤ gb389))
               have n8_ := Aside0.mk ((by rw [hg];exact (below_size (by repeat (first|(with_reducible first | exact HB.out | apply below_alloc | apply pw_below_drewN | apply below_drew1 | refine below_set ?_ GE356.out | refine below_set ?_ GE368.out) | exact HB.out))) : w.heap.size ≤ gb389))
               have n9_ := Aside0.mk ((by rw [hg];exact Nat.ne_of_lt (blk_lt (g := gb356) (o := .cells #[.int .i64 a0_0, .slice A0_1 l0_1.length c0_1] 24 (0, 0)) (by (with_reducible repeat (first|refine blk_drewN ?_ _ | refine blk_drew ?_ | refine blk_alloc ?_ _));exact BK356.out)) : gb356 ≠ gb389))
               have n10_ := Aside0.mk ((by rw [hg];exact Nat.ne_of_gt (blk_lt (g := gb356) (o := .cells #[.int .i64 a0_0, .slice A0_1 l0_1.length c0_1] 24 (0, 0)) (by (with_reducible repeat (first|refine blk_drewN ?_ _ | refine blk_drew ?_ | refine blk_alloc ?_ _));exact BK356.out)) : gb389 ≠ gb356))
               have n11_ := Aside0.mk ((by rw [hg];exact Nat.ne_of_lt (blk_lt (g := gb368) (o := .cells #[.int .i64 t363, .slice Ao68 t364.length co68] 24 (0, 0)) (by (with_reducible repeat (first|refine blk_drewN ?_ _ | refine blk_drew ?_ | refine blk_alloc ?_ _));exact BK368.out)) : gb368 ≠ gb389))
               have n12_ := Aside0.mk ((by rw [hg];exact Nat.ne_of_gt (blk_lt (g := gb368) (o := .cells #[.int .i64 t363, .slice Ao68 t364.length co68] 24 (0, 0)) (by (with_reducible repeat (first|refine blk_drewN ?_ _ | refine blk_drew ?_ | refine blk_alloc ?_ _));exact BK368.out)) : gb389 ≠ gb368))
               clear HO_369001 HO383 HO387 BK356 BK368 HB
               have HO_369001 := n0_
               have HO383 := n1_
               have HO387 := n2_
               have BK356 := n3_
               have BK368 := n4_
               have HB := n5_
               have BK389 := n6_
               have GW389 := n7_
               have GE389 := n8_
               have NB356_389 := n9_
               have NB389_356 := n10_
               have NB368_389 := n11_
               have NB389_368 := n12_
               clear n0_ n1_ n2_ n3_ n4_ n5_ n6_ n7_ n8_ n9_ n10_ n11_ n12_ hb hbox hg
               refine hK.out _ _ ⟨(blk_cell BK368.out 0).trans rfl, (blk_cell BK368.out 1).trans rfl⟩ (fun hHeld => ?_)
               clear hK K
               refine norm_ (a' := ?_) ?_ ?_
               rotate_left
               ·show Act.put _ (some 14) _ = _
                simp only [Act.put, List.setIfInBounds_toArray, List.set_cons_zero, List.set_cons_succ, i64_w, i32_w]
                rfl
               exact norm_ (by simp only [putAll, Act.put, List.setIfInBounds_toArray, List.set_cons_zero, List.set_cons_succ]) (hCont (.slice Ao110 t381.length co110, v386, gb389) _ ⟨hHeld, (by (with_reducible repeat (first|apply Kd.R_alloc | apply Kd.R_drewN | apply Kd.R_drew));exact HO383.out), (by (with_reducible repeat (first|apply Kd.S_alloc | apply Kd.S_drewN | apply Kd.S_drew));exact Kd.S_mono HO387.out (fun _ hk => ⟨hk.2, hk.1.2⟩)), (by (with_reducible repeat (first|apply Kd.S_alloc | apply Kd.S_drewN | apply Kd.S_drew));exact Kd.S_mono HO_369001.out (fun _ hk => ⟨hk.1.2, hk.2⟩)), (by (with_reducible repeat (first|refine blk_drewN ?_ _ | refine blk_drew ?_ | refine blk_alloc ?_ _));exact BK356.out), (by (with_reducible repeat (first|refine blk_drewN ?_ _ | refine blk_drew ?_ | refine blk_alloc ?_ _));exact BK368.out), (by (with_reducible repeat (first|refine blk_drewN ?_ _ | refine blk_drew ?_ | refine blk_alloc ?_ _));exact BK389.out), GW389.out, GE389.out, NB356_389.out, NB389_356.out, NB368_389.out, NB389_368.out, (by repeat (first|(with_reducible first | exact HB.out | apply below_alloc | apply pw_below_drewN | apply below_drew1 | refine below_set ?_ GE356.out | refine below_set ?_ GE368.out | refine below_set ?_ GE389.out) | exact HB.out))⟩)
              ·skip
               refine box_step ?hg (N := 14) ?hd (cs := #[.int .i64 0, .slice none 0 0]) (t := 24) ?hr ?_;(case hd => rfl);(case hg => rfl);(case hr => first | (go_simp;done) | (go_simp;rfl))
               intro gb389 hg w110 hbox hb
               have n0_ := Aside0.mk (Kd.S_below (by (with_reducible repeat (first|apply Kd.S_alloc | apply Kd.S_drewN | apply Kd.S_drew));exact HO_369001.out) hb)
               have n1_ := Aside0.mk (Kd.R_below (by (with_reducible repeat (first|apply Kd.R_alloc | apply Kd.R_drewN | apply Kd.R_drew));exact HO383.out) hb)
               have n2_ := Aside0.mk (blk_below (g := gb356) (o := .cells #[.int .i64 a0_0, .slice A0_1 l0_1.length c0_1] 24 (0, 0)) (by (with_reducible repeat (first|refine blk_drewN ?_ _ | refine blk_drew ?_ | refine blk_alloc ?_ _));exact BK356.out) hb)
               have n3_ := Aside0.mk (blk_below (g := gb368) (o := .cells #[.int .i64 t363, .slice Ao68 t364.length co68] 24 (0, 0)) (by (with_reducible repeat (first|refine blk_drewN ?_ _ | refine blk_drew ?_ | refine blk_alloc ?_ _));exact BK368.out) hb)
               have n4_ := Aside0.mk (below_step (by repeat (first|(with_reducible first | exact HB.out | apply below_alloc | apply pw_below_drewN | apply below_drew1 | refine below_set ?_ GE356.out | refine below_set ?_ GE368.out) | exact HB.out)) hb)
               have n5_ := Aside0.mk (hbox)
               have n6_ := Aside0.mk ((by rw [hg];exact (below_size (by repeat (first|(with_reducible first | exact HB.out | apply below_alloc | apply pw_below_drewN | apply below_drew1 | refine below_set ?_ GE356.out | refine below_set ?_ GE368.out) | exact HB.out))) : w.heap.size ≤ gb389))
               have n7_ := Aside0.mk ((by rw [hg];exact (below_size (by repeat (first|(with_reducible first | exact HB.out | apply below_alloc | apply pw_below_drewN | apply below_drew1 | refine below_set ?_ GE356.out | refine below_set ?_ GE368.out) | exact HB.out))) : w.heap.size ≤ gb389))
               have n8_ := Aside0.mk ((by rw [hg];exact Nat.ne_of_lt (blk_lt (g := gb356) (o := .cells #[.int .i64 a0_0, .slice A0_1 l0_1.length c0_1] 24 (0, 0)) (by (with_reducible repeat (first|refine blk_drewN ?_ _ | refine blk_drew ?_ | refine blk_alloc ?_ _));exact BK356.out)) : gb356 ≠ gb389))
               have n9_ := Aside0.mk ((by rw [hg];exact Nat.ne_of_gt (blk_lt (g := gb356) (o := .cells #[.int .i64 a0_0, .slice A0_1 l0_1.length c0_1] 24 (0, 0)) (by (with_reducible repeat (first|refine blk_drewN ?_ _ | refine blk_drew ?_ | refine blk_alloc ?_ _));exact BK356.out)) : gb389 ≠ gb356))
               have n10_ := Aside0.mk ((by rw [hg];exact Nat.ne_of_lt (blk_lt (g := gb368) (o := .cells #[.int .i64 t363, .slice Ao68 t364.length co68] 24 (0, 0)) (by (with_reducible repeat (first|refine blk_drewN ?_ _ | refine blk_drew ?_ | refine blk_alloc ?_ _));exact BK368.out)) : gb368 ≠ gb389))
               have n11_ := Aside0.mk ((by rw [hg];exact Nat.ne_of_gt (blk_lt (g := gb368) (o := .cells #[.int .i64 t363, .slice Ao68 t364.length co68] 24 (0, 0)) (by (with_reducible repeat (first|refine blk_drewN ?_ _ | refine blk_drew ?_ | refine blk_alloc ?_ _));exact BK368.out)) : gb389 ≠ gb368))
               clear HO_369001 HO383 BK356 BK368 HB
               have HO_369001 := n0_
               have HO383 := n1_
               have BK356 := n2_
               have BK368 := n3_
               have HB := n4_
               have BK389 := n5_
               have GW389 := n6_
               have GE389 := n7_
               have NB356_389 := n8_
               have NB389_356 := n9_
               have NB368_389 := n10_
               have NB389_368 := n11_
               clear n0_ n1_ n2_ n3_ n4_ n5_ n6_ n7_ n8_ n9_ n10_ n11_ hb hbox hg
               obtain ⟨Ao111, co111, eo111⟩ := Kd.R_slice HO383.out
               (first|subst eo111 | (injection eo111 with f1_ f2_ f3_;have f4_ := f1_.symm;have f5_ := f3_.symm;clear f1_ f2_ f3_;subst f4_;subst f5_))
               refine hK.out _ _ ⟨(blk_cell BK368.out 0).trans rfl, (blk_cell BK368.out 1).trans rfl⟩ (fun hHeld => ?_)
               clear hK K
               refine norm_ (a' := ?_) ?_ ?_
               rotate_left
               ·show Act.put _ (some 14) _ = _
                simp only [Act.put, List.setIfInBounds_toArray, List.set_cons_zero, List.set_cons_succ, i64_w, i32_w]
                rfl
               refine one_ (i := 3) (N := some 130) #[true, true, true, true, false, false, false, true, false, false] rfl rfl (one_of HT_.out (by kernel_rfl)) (by decide) (fun K hK => ?_)
               refine goes_ Try.func32 (by kernel_rfl) rfl #[.agg #[.int .i64 t363, .slice Ao68 t364.length co68], .slice Ao111 t381.length co111] (by rfl) rfl rfl (by (try simp only [List.map_toArray, List.map_cons, List.map_nil]);first | done | rfl | (simp only [List.length_drop, List.length_take];rfl)) ?_
               with_reducible refine (permgroup_Conjugate.calls k3 t363 _ _ t364 _ _ t381 t384 t385 t388 _ ?side1 ?side2 ?side3 ?side4 A99.out).mono ?_
               (case side1 => repeat (first|exact (Kd.S_reads' HO_369001.out).2.2 | (with_reducible refine Kd.C_alloc ?_ _) | (with_reducible refine Kd.C_drewN ?_ _) | (with_reducible refine Kd.C_drew ?_)))
               (case side2 => exact (Kd.S_reads' HO_369001.out).2.1)
               (case side3 => repeat (first|exact (Kd.R_reads' HO383.out).2.2 | (with_reducible refine Kd.C_alloc ?_ _) | (with_reducible refine Kd.C_drewN ?_ _) | (with_reducible refine Kd.C_drew ?_)))
               (case side4 => exact (Kd.R_reads' HO383.out).2.1)
               rintro e w112 ⟨v386, rfl, ho0, hb⟩
               refine ⟨_, rfl, ?_⟩
               have n0_ := Aside0.mk (Kd.S_elder' (by (with_reducible repeat (first|apply Kd.S_alloc | apply Kd.S_drewN | apply Kd.S_drew));exact HO_369001.out) (Kd.S_base ho0) hb)
               have n1_ := Aside0.mk (Kd.R_below (by (with_reducible repeat (first|apply Kd.R_alloc | apply Kd.R_drewN | apply Kd.R_drew));exact HO383.out) hb)
               have n2_ := Aside0.mk (Kd.S_lower (Kd.S_new' (Kd.S_new' ho0 (Kd.S_lt (by (with_reducible repeat (first|apply Kd.S_alloc | apply Kd.S_drewN | apply Kd.S_drew));exact HO_369001.out))) (Kd.R_lt (by (with_reducible repeat (first|apply Kd.R_alloc | apply Kd.R_drewN | apply Kd.R_drew));exact HO383.out))) (below_size (by repeat (first|(with_reducible first | exact HB.out | apply below_alloc | apply pw_below_drewN | apply below_drew1 | refine below_set ?_ GE356.out | refine below_set ?_ GE368.out | refine below_set ?_ GE389.out) | exact HB.out))))
               have n3_ := Aside0.mk (blk_below (g := gb356) (o := .cells #[.int .i64 a0_0, .slice A0_1 l0_1.length c0_1] 24 (0, 0)) (by (with_reducible repeat (first|refine blk_drewN ?_ _ | refine blk_drew ?_ | refine blk_alloc ?_ _));exact BK356.out) hb)
               have n4_ := Aside0.mk (blk_below (g := gb368) (o := .cells #[.int .i64 t363, .slice Ao68 t364.length co68] 24 (0, 0)) (by (with_reducible repeat (first|refine blk_drewN ?_ _ | refine blk_drew ?_ | refine blk_alloc ?_ _));exact BK368.out) hb)
               have n5_ := Aside0.mk (blk_below (g := gb389) (o := .cells #[.int .i64 0, .slice none 0 0] 24 (0, 0)) (by (with_reducible repeat (first|refine blk_drewN ?_ _ | refine blk_drew ?_ | refine blk_alloc ?_ _));exact BK389.out) hb)
               have n6_ := Aside0.mk (below_step (by repeat (first|(with_reducible first | exact HB.out | apply below_alloc | apply pw_below_drewN | apply below_drew1 | refine below_set ?_ GE356.out | refine below_set ?_ GE368.out | refine below_set ?_ GE389.out) | exact HB.out)) hb)
               clear HO_369001 HO383 BK356 BK368 BK389 HB
               have HO_369001 := n0_
               have HO383 := n1_
               have HO387 := n2_
               have BK356 := n3_
               have BK368 := n4_
               have BK389 := n5_
               have HB := n6_
               clear n0_ n1_ n2_ n3_ n4_ n5_ n6_
               (try clear hb)
               (try clear hb2)
               (try clear hk)
               (try clear hi)
               (try clear ho0)
               refine hK.out _ _ ⟨(blk_cell BK368.out 0).trans rfl, (blk_cell BK368.out 1).trans rfl⟩ (fun hHeld => ?_)
               clear hK K
               refine norm_ (a' := ?_) ?_ ?_
               rotate_left
               ·show Act.put _ (some 130) _ = _
                simp only [Act.put, List.setIfInBounds_toArray, List.set_cons_zero, List.set_cons_succ, i64_w, i32_w]
                rfl
               refine pure_ (i := 4) (N := some 126) (v := ?_) (a' := ?_) #[true, true, true, true, true, false, false, true, false, false] rfl rfl (any_of HT_.out (by kernel_rfl)) (fun _ _ _ h => h) (Or.inl ⟨by rfl, ?_⟩) ?_ ?_
               rotate_left
               ·intro w'
                go_simp
                with_reducible rfl
               rotate_left
               ·simp only [Act.put, List.setIfInBounds_toArray, List.set_cons_zero, List.set_cons_succ, i64_w, i32_w]
                rfl
               refine pure_ (i := 5) (N := some 131) (v := ?_) (a' := ?_) #[true, true, true, true, true, true, false, true, false, false] rfl rfl (any_of HT_.out (by kernel_rfl)) (fun _ _ _ h => h) (Or.inl ⟨by rfl, ?_⟩) ?_ ?_
               rotate_left
               ·intro w'
                go_simp
                with_reducible rfl
               rotate_left
               ·simp only [Act.put, List.setIfInBounds_toArray, List.set_cons_zero, List.set_cons_succ, i64_w, i32_w]
                rfl
               refine pure_ (i := 6) (N := some 132) (v := ?_) (a' := ?_) #[true, true, true, true, true, true, true, true, false, false] rfl rfl (any_of HT_.out (by kernel_rfl)) (fun _ _ _ h => h) (Or.inl ⟨by rfl, ?_⟩) ?_ ?_
               rotate_left
               ·intro w'
                go_simp
                with_reducible rfl
               rotate_left
               ·simp only [Act.put, List.setIfInBounds_toArray, List.set_cons_zero, List.set_cons_succ, i64_w, i32_w]
                rfl
               exact norm_ (by simp only [putAll, Act.put, List.setIfInBounds_toArray, List.set_cons_zero, List.set_cons_succ]) (hCont (.slice Ao111 t381.length co111, v386, gb389) _ ⟨hHeld, (by (with_reducible repeat (first|apply Kd.R_alloc | apply Kd.R_drewN | apply Kd.R_drew));exact HO383.out), (by (with_reducible repeat (first|apply Kd.S_alloc | apply Kd.S_drewN | apply Kd.S_drew));exact Kd.S_mono HO387.out (fun _ hk => ⟨hk.2, hk.1.2⟩)), (by (with_reducible repeat (first|apply Kd.S_alloc | apply Kd.S_drewN | apply Kd.S_drew));exact Kd.S_mono HO_369001.out (fun _ hk => ⟨hk.1.2, hk.2⟩)), (by (with_reducible repeat (first|refine blk_drewN ?_ _ | refine blk_drew ?_ | refine blk_alloc ?_ _));exact BK356.out), (by (with_reducible repeat (first|refine blk_drewN ?_ _ | refine blk_drew ?_ | refine blk_alloc ?_ _));exact BK368.out), (by (with_reducible repeat (first|refine blk_drewN ?_ _ | refine blk_drew ?_ | refine blk_alloc ?_ _));exact BK389.out), GW389.out, GE389.out, NB356_389.out, NB389_356.out, NB368_389.out, NB389_368.out, (by repeat (first|(with_reducible first | exact HB.out | apply below_alloc | apply pw_below_drewN | apply below_drew1 | refine below_set ?_ GE356.out | refine below_set ?_ GE368.out | refine below_set ?_ GE389.out) | exact HB.out))⟩)
             ·skip
              refine box_step ?hg (N := 14) ?hd (cs := #[.int .i64 0, .slice none 0 0]) (t := 24) ?hr ?_;(case hd => rfl);(case hg => rfl);(case hr => first | (go_simp;done) | (go_simp;rfl))
              intro gb389 hg w109 hbox hb
              have n0_ := Aside0.mk (Kd.S_below (by (with_reducible repeat (first|apply Kd.S_alloc | apply Kd.S_drewN | apply Kd.S_drew));exact HO_369001.out) hb)
              have n1_ := Aside0.mk (blk_below (g := gb356) (o := .cells #[.int .i64 a0_0, .slice A0_1 l0_1.length c0_1] 24 (0, 0)) (by (with_reducible repeat (first|refine blk_drewN ?_ _ | refine blk_drew ?_ | refine blk_alloc ?_ _));exact BK356.out) hb)
              have n2_ := Aside0.mk (blk_below (g := gb368) (o := .cells #[.int .i64 t363, .slice Ao68 t364.length co68] 24 (0, 0)) (by (with_reducible repeat (first|refine blk_drewN ?_ _ | refine blk_drew ?_ | refine blk_alloc ?_ _));exact BK368.out) hb)
              have n3_ := Aside0.mk (below_step (by repeat (first|(with_reducible first | exact HB.out | apply below_alloc | apply pw_below_drewN | apply below_drew1 | refine below_set ?_ GE356.out | refine below_set ?_ GE368.out) | exact HB.out)) hb)
              have n4_ := Aside0.mk (hbox)
              have n5_ := Aside0.mk ((by rw [hg];exact (below_size (by repeat (first|(with_reducible first | exact HB.out | apply below_alloc | apply pw_below_drewN | apply below_drew1 | refine below_set ?_ GE356.out | refine below_set ?_ GE368.out) | exact HB.out))) : w.heap.size ≤ gb389))
              have n6_ := Aside0.mk ((by rw [hg];exact (below_size (by repeat (first|(with_reducible first | exact HB.out | apply below_alloc | apply pw_below_drewN | apply below_drew1 | refine below_set ?_ GE356.out | refine below_set ?_ GE368.out) | exact HB.out))) : w.heap.size ≤ gb389))
              have n7_ := Aside0.mk ((by rw [hg];exact Nat.ne_of_lt (blk_lt (g := gb356) (o := .cells #[.int .i64 a0_0, .slice A0_1 l0_1.length c0_1] 24 (0, 0)) (by (with_reducible repeat (first|refine blk_drewN ?_ _ | refine blk_drew ?_ | refine blk_alloc ?_ _));exact BK356.out)) : gb356 ≠ gb389))
              have n8_ := Aside0.mk ((by rw [hg];exact Nat.ne_of_gt (blk_lt (g := gb356) (o := .cells #[.int .i64 a0_0, .slice A0_1 l0_1.length c0_1] 24 (0, 0)) (by (with_reducible repeat (first|refine blk_drewN ?_ _ | refine blk_drew ?_ | refine blk_alloc ?_ _));exact BK356.out)) : gb389 ≠ gb356))
              have n9_ := Aside0.mk ((by rw [hg];exact Nat.ne_of_lt (blk_lt (g := gb368) (o := .cells #[.int .i64 t363, .slice Ao68 t364.length co68] 24 (0, 0)) (by (with_reducible repeat (first|refine blk_drewN ?_ _ | refine blk_drew ?_ | refine blk_alloc ?_ _));exact BK368.out)) : gb368 ≠ gb389))
              have n10_ := Aside0.mk ((by rw [hg];exact Nat.ne_of_gt (blk_lt (g := gb368) (o := .cells #[.int .i64 t363, .slice Ao68 t364.length co68] 24 (0, 0)) (by (with_reducible repeat (first|refine blk_drewN ?_ _ | refine blk_drew ?_ | refine blk_alloc ?_ _));exact BK368.out)) : gb389 ≠ gb368))
              clear HO_369001 BK356 BK368 HB
              have HO_369001 := n0_
              have BK356 := n1_
              have BK368 := n2_
              have HB := n3_
              have BK389 := n4_
              have GW389 := n5_
              have GE389 := n6_
              have NB356_389 := n7_
              have NB389_356 := n8_
              have NB368_389 := n9_
              have NB389_368 := n10_
              clear n0_ n1_ n2_ n3_ n4_ n5_ n6_ n7_ n8_ n9_ n10_ hb hbox hg
              refine hK.out _ _ ⟨(blk_cell BK368.out 0).trans rfl, (blk_cell BK368.out 1).trans rfl⟩ (fun hHeld => ?_)
              clear hK K
              refine norm_ (a' := ?_) ?_ ?_
              rotate_left
              ·show Act.put _ (some 14) _ = _
               simp only [Act.put, List.setIfInBounds_toArray, List.set_cons_zero, List.set_cons_succ, i64_w, i32_w]
               rfl
              refine one_ (i := 2) (N := some 129) #[true, true, true, false, false, false, false, true, false, false] rfl rfl (one_of HT_.out (by kernel_rfl)) (by decide) (fun K hK => ?_)
              refine goes_ Try.func34 (by kernel_rfl) rfl #[.slice A1 l1.length c1] (by rfl) rfl rfl (by (try simp only [List.map_toArray, List.map_cons, List.map_nil]);first | done | rfl | (simp only [List.length_drop, List.length_take];rfl)) ?_
              with_reducible refine (galoisref22_Inverse.calls k3 _ _ l1 t381 _ ?side1 ?side2 A98.out).mono ?_
              (case side1 => repeat (first|exact (Kd.C_below HR1.out HB.out) | (with_reducible refine Kd.C_alloc ?_ _) | (with_reducible refine Kd.C_drewN ?_ _) | (with_reducible refine Kd.C_drew ?_)))
              (case side2 => exact HC1.out)
              rintro e w110 ⟨v382, rfl, ho0, hb⟩
              refine ⟨_, rfl, ?_⟩
              have n0_ := Aside0.mk (Kd.S_elder' (by (with_reducible repeat (first|apply Kd.S_alloc | apply Kd.S_drewN | apply Kd.S_drew));exact HO_369001.out) (Kd.R_base ho0) hb)
              have n1_ := Aside0.mk (Kd.R_lower ho0 (below_size (by repeat (first|(with_reducible first | exact HB.out | apply below_alloc | apply pw_below_drewN | apply below_drew1 | refine below_set ?_ GE356.out | refine below_set ?_ GE368.out | refine below_set ?_ GE389.out) | exact HB.out))))
              have n2_ := Aside0.mk (blk_below (g := gb356) (o := .cells #[.int .i64 a0_0, .slice A0_1 l0_1.length c0_1] 24 (0, 0)) (by (with_reducible repeat (first|refine blk_drewN ?_ _ | refine blk_drew ?_ | refine blk_alloc ?_ _));exact BK356.out) hb)
              have n3_ := Aside0.mk (blk_below (g := gb368) (o := .cells #[.int .i64 t363, .slice Ao68 t364.length co68] 24 (0, 0)) (by (with_reducible repeat (first|refine blk_drewN ?_ _ | refine blk_drew ?_ | refine blk_alloc ?_ _));exact BK368.out) hb)
              have n4_ := Aside0.mk (blk_below (g := gb389) (o := .cells #[.int .i64 0, .slice none 0 0] 24 (0, 0)) (by (with_reducible repeat (first|refine blk_drewN ?_ _ | refine blk_drew ?_ | refine blk_alloc ?_ _));exact BK389.out) hb)
              have n5_ := Aside0.mk (below_step (by repeat (first|(with_reducible first | exact HB.out | apply below_alloc | apply pw_below_drewN | apply below_drew1 | refine below_set ?_ GE356.out | refine below_set ?_ GE368.out | refine below_set ?_ GE389.out) | exact HB.out)) hb)
              clear HO_369001 BK356 BK368 BK389 HB
              have HO_369001 := n0_
              have HO383 := n1_
              have BK356 := n2_
              have BK368 := n3_
              have BK389 := n4_
              have HB := n5_
              clear n0_ n1_ n2_ n3_ n4_ n5_
              (try clear hb)
              (try clear hb2)
              (try clear hk)
              (try clear hi)
              (try clear ho0)
              obtain ⟨Ao111, co111, eo111⟩ := Kd.R_slice HO383.out
              (first|subst eo111 | (injection eo111 with f1_ f2_ f3_;have f4_ := f1_.symm;have f5_ := f3_.symm;clear f1_ f2_ f3_;subst f4_;subst f5_))
              refine hK.out _ _ ⟨(blk_cell BK368.out 0).trans rfl, (blk_cell BK368.out 1).trans rfl⟩ (fun hHeld => ?_)
              clear hK K
              refine norm_ (a' := ?_) ?_ ?_
              rotate_left
              ·show Act.put _ (some 129) _ = _
               simp only [Act.put, List.setIfInBounds_toArray, List.set_cons_zero, List.set_cons_succ, i64_w, i32_w]
               rfl
              refine one_ (i := 3) (N := some 130) #[true, true, true, true, false, false, false, true, false, false] rfl rfl (one_of HT_.out (by kernel_rfl)) (by decide) (fun K hK => ?_)
              refine goes_ Try.func32 (by kernel_rfl) rfl #[.agg #[.int .i64 t363, .slice Ao68 t364.length co68], .slice Ao111 t381.length co111] (by rfl) rfl rfl (by (try simp only [List.map_toArray, List.map_cons, List.map_nil]);first | done | rfl | (simp only [List.length_drop, List.length_take];rfl)) ?_
              with_reducible refine (permgroup_Conjugate.calls k3 t363 _ _ t364 _ _ t381 t384 t385 t388 _ ?side1 ?side2 ?side3 ?side4 A99.out).mono ?_
              (case side1 => repeat (first|exact (Kd.S_reads' HO_369001.out).2.2 | (with_reducible refine Kd.C_alloc ?_ _) | (with_reducible refine Kd.C_drewN ?_ _) | (with_reducible refine Kd.C_drew ?_)))
              (case side2 => exact (Kd.S_reads' HO_369001.out).2.1)
              (case side3 => repeat (first|exact (Kd.R_reads' HO383.out).2.2 | (with_reducible refine Kd.C_alloc ?_ _) | (with_reducible refine Kd.C_drewN ?_ _) | (with_reducible refine Kd.C_drew ?_)))
              (case side4 => exact (Kd.R_reads' HO383.out).2.1)
              rintro e w112 ⟨v386, rfl, ho0, hb⟩
              refine ⟨_, rfl, ?_⟩
              have n0_ := Aside0.mk (Kd.S_elder' (by (with_reducible repeat (first|apply Kd.S_alloc | apply Kd.S_drewN | apply Kd.S_drew));exact HO_369001.out) (Kd.S_base ho0) hb)
              have n1_ := Aside0.mk (Kd.R_below (by (with_reducible repeat (first|apply Kd.R_alloc | apply Kd.R_drewN | apply Kd.R_drew));exact HO383.out) hb)
              have n2_ := Aside0.mk (Kd.S_lower (Kd.S_new' (Kd.S_new' ho0 (Kd.S_lt (by (with_reducible repeat (first|apply Kd.S_alloc | apply Kd.S_drewN | apply Kd.S_drew));exact HO_369001.out))) (Kd.R_lt (by (with_reducible repeat (first|apply Kd.R_alloc | apply Kd.R_drewN | apply Kd.R_drew));exact HO383.out))) (below_size (by repeat (first|(with_reducible first | exact HB.out | apply below_alloc | apply pw_below_drewN | apply below_drew1 | refine below_set ?_ GE356.out | refine below_set ?_ GE368.out | refine below_set ?_ GE389.out) | exact HB.out))))
              have n3_ := Aside0.mk (blk_below (g := gb356) (o := .cells #[.int .i64 a0_0, .slice A0_1 l0_1.length c0_1] 24 (0, 0)) (by (with_reducible repeat (first|refine blk_drewN ?_ _ | refine blk_drew ?_ | refine blk_alloc ?_ _));exact BK356.out) hb)
              have n4_ := Aside0.mk (blk_below (g := gb368) (o := .cells #[.int .i64 t363, .slice Ao68 t364.length co68] 24 (0, 0)) (by (with_reducible repeat (first|refine blk_drewN ?_ _ | refine blk_drew ?_ | refine blk_alloc ?_ _));exact BK368.out) hb)
              have n5_ := Aside0.mk (blk_below (g := gb389) (o := .cells #[.int .i64 0, .slice none 0 0] 24 (0, 0)) (by (with_reducible repeat (first|refine blk_drewN ?_ _ | refine blk_drew ?_ | refine blk_alloc ?_ _));exact BK389.out) hb)
              have n6_ := Aside0.mk (below_step (by repeat (first|(with_reducible first | exact HB.out | apply below_alloc | apply pw_below_drewN | apply below_drew1 | refine below_set ?_ GE356.out | refine below_set ?_ GE368.out | refine below_set ?_ GE389.out) | exact HB.out)) hb)
              clear HO_369001 HO383 BK356 BK368 BK389 HB
              have HO_369001 := n0_
              have HO383 := n1_
              have HO387 := n2_
              have BK356 := n3_
              have BK368 := n4_
              have BK389 := n5_
              have HB := n6_
              clear n0_ n1_ n2_ n3_ n4_ n5_ n6_
              (try clear hb)
              (try clear hb2)
              (try clear hk)
              (try clear hi)
              (try clear ho0)
              refine hK.out _ _ ⟨(blk_cell BK368.out 0).trans rfl, (blk_cell BK368.out 1).trans rfl⟩ (fun hHeld => ?_)
              clear hK K
              refine norm_ (a' := ?_) ?_ ?_
              rotate_left
              ·show Act.put _ (some 130) _ = _
               simp only [Act.put, List.setIfInBounds_toArray, List.set_cons_zero, List.set_cons_succ, i64_w, i32_w]
               rfl
              refine pure_ (i := 4) (N := some 126) (v := ?_) (a' := ?_) #[true, true, true, true, true, false, false, true, false, false] rfl rfl (any_of HT_.out (by kernel_rfl)) (fun _ _ _ h => h) (Or.inl ⟨by rfl, ?_⟩) ?_ ?_
              rotate_left
              ·intro w'
               go_simp
               with_reducible rfl
              rotate_left
              ·simp only [Act.put, List.setIfInBounds_toArray, List.set_cons_zero, List.set_cons_succ, i64_w, i32_w]
               rfl
              refine pure_ (i := 5) (N := some 131) (v := ?_) (a' := ?_) #[true, true, true, true, true, true, false, true, false, false] rfl rfl (any_of HT_.out (by kernel_rfl)) (fun _ _ _ h => h) (Or.inl ⟨by rfl, ?_⟩) ?_ ?_
              rotate_left
              ·intro w'
               go_simp
               with_reducible rfl
              rotate_left
              ·simp only [Act.put, List.setIfInBounds_toArray, List.set_cons_zero, List.set_cons_succ, i64_w, i32_w]
               rfl
              refine pure_ (i := 6) (N := some 132) (v := ?_) (a' := ?_) #[true, true, true, true, true, true, true, true, false, false] rfl rfl (any_of HT_.out (by kernel_rfl)) (fun _ _ _ h => h) (Or.inl ⟨by rfl, ?_⟩) ?_ ?_
              rotate_left
              ·intro w'
               go_simp
               with_reducible rfl
              rotate_left
              ·simp only [Act.put, List.setIfInBounds_toArray, List.set_cons_zero, List.set_cons_succ, i64_w, i32_w]
               rfl
              exact norm_ (by simp only [putAll, Act.put, List.setIfInBounds_toArray, List.set_cons_zero, List.set_cons_succ]) (hCont (.slice Ao111 t381.length co111, v386, gb389) _ ⟨hHeld, (by (with_reducible repeat (first|apply Kd.R_alloc | apply Kd.R_drewN | apply Kd.R_drew));exact HO383.out), (by (with_reducible repeat (first|apply Kd.S_alloc | apply Kd.S_drewN | apply Kd.S_drew));exact Kd.S_mono HO387.out (fun _ hk => ⟨hk.2, hk.1.2⟩)), (by (with_reducible repeat (first|apply Kd.S_alloc | apply Kd.S_drewN | apply Kd.S_drew));exact Kd.S_mono HO_369001.out (fun _ hk => ⟨hk.1.2, hk.2⟩)), (by (with_reducible repeat (first|refine blk_drewN ?_ _ | refine blk_drew ?_ | refine blk_alloc ?_ _));exact BK356.out), (by (with_reducible repeat (first|refine blk_drewN ?_ _ | refine blk_drew ?_ | refine blk_alloc ?_ _));exact BK368.out), (by (with_reducible repeat (first|refine blk_drewN ?_ _ | refine blk_drew ?_ | refine blk_alloc ?_ _));exact BK389.out), GW389.out, GE389.out, NB356_389.out, NB389_356.out, NB368_389.out, NB389_368.out, (by repeat (first|(with_reducible first | exact HB.out | apply below_alloc | apply pw_below_drewN | apply below_drew1 | refine below_set ?_ GE356.out | refine below_set ?_ GE368.out | refine below_set ?_ GE389.out) | exact HB.out))⟩)
            rintro ⟨v382, v386, gb389⟩ w113 ⟨hS_, h0_, h1_, h2_, h3_, h4_, h5_, h6_, h7_, h8_, h9_, h10_, h11_, h12_⟩
            have n0_ : Aside0 (Kd.R (Kd.int .i64) 3 w113 w.heap.size (fun _ => True) v382 t381) := ⟨h0_⟩
            have n1_ : Aside0 (Kd.S (Kd.slice 3 (Kd.int .i64)) 47 w113 w.heap.size (fun k_ => some k_ ≠ (v382 : Value).ownBlock ∧ some k_ ≠ (.slice Ao68 t364.length co68 : Value).ownBlock) v386 t385) := ⟨h1_⟩
            have n2_ : Aside0 (Kd.S (Kd.slice 3 (Kd.int .i64)) 47 w113 w.heap.size (fun k_ => some k_ ≠ (v382 : Value).ownBlock ∧ some k_ ≠ (v386 : Value).ownBlock) (.slice Ao68 t364.length co68) t364) := ⟨h2_⟩
            have n3_ : Aside0 (w113.heap[gb356]? = some (.cells #[.int .i64 a0_0, .slice A0_1 l0_1.length c0_1] 24 (0, 0))) := ⟨h3_⟩
            have n4_ : Aside0 (w113.heap[gb368]? = some (.cells #[.int .i64 t363, .slice Ao68 t364.length co68] 24 (0, 0))) := ⟨h4_⟩
            have n5_ : Aside0 (w113.heap[gb389]? = some (.cells #[.int .i64 0, .slice none 0 0] 24 (0, 0))) := ⟨h5_⟩
            have n6_ : Aside0 (w.heap.size ≤ gb389) := ⟨h6_⟩
            have n7_ : Aside0 (w.heap.size ≤ gb389) := ⟨h7_⟩
            have n8_ : Aside0 (gb356 ≠ gb389) := ⟨h8_⟩
            have n9_ : Aside0 (gb389 ≠ gb356) := ⟨h9_⟩
            have n10_ : Aside0 (gb368 ≠ gb389) := ⟨h10_⟩
            have n11_ : Aside0 (gb389 ≠ gb368) := ⟨h11_⟩
            have n12_ : Aside0 (Below w.heap.size w w113) := ⟨h12_⟩
            clear HO_369001 BK356 BK368 HB h0_ h1_ h2_ h3_ h4_ h5_ h6_ h7_ h8_ h9_ h10_ h11_ h12_
            have HO383 := n0_
            have HO387 := n1_
            have HO_369001 := n2_
            have BK356 := n3_
            have BK368 := n4_
            have BK389 := n5_
            have GW389 := n6_
            have GE389 := n7_
            have NB356_389 := n8_
            have NB389_356 := n9_
            have NB368_389 := n10_
            have NB389_368 := n11_
            have HB := n12_
            clear n0_ n1_ n2_ n3_ n4_ n5_ n6_ n7_ n8_ n9_ n10_ n11_ n12_
            have hHeld : w113.cell? ⟨gb368, 0, none⟩ = some (.int .i64 t363) ∧ w113.cell? ⟨gb368, 1, none⟩ = some (.slice Ao68 t364.length co68) := hS_
            obtain ⟨Ao115, co115, eo115⟩ := Kd.S_slice HO387.out
            (first|subst eo115 | (injection eo115 with f1_ f2_ f3_;have f4_ := f1_.symm;have f5_ := f3_.symm;clear f1_ f2_ f3_;subst f4_;subst f5_))
            refine norm_ (a' := ?_) ?_ ?_
            rotate_left
            ·simp only [putAll, Act.put, List.setIfInBounds_toArray, List.set_cons_zero, List.set_cons_succ]
             rfl
            refine one_ (i := 8) (N := none) #[true, true, true, true, true, true, true, true, true, false] rfl rfl (one_of HT_.out (by kernel_rfl)) (by decide) (fun K hK => ?_)
            have hs114 : w113.cell? ⟨gb389, 0, none⟩ = some (.int .i64 0) := (blk_cell BK389.out 0).trans rfl
            have hfs114 := blk_frozen BK389.out 0
            have hns114_0 := NB356_389.out
            have hns114_1 := NB368_389.out
            have hms114_0 := NB389_356.out
            have hms114_1 := NB389_368.out
            have hs116 : w113.cell? ⟨gb389, 1, none⟩ = some (.slice none 0 0) := (blk_cell BK389.out 1).trans rfl
            have hfs116 := blk_frozen BK389.out 1
            have hns116_0 := NB356_389.out
            have hns116_1 := NB368_389.out
            have hms116_0 := NB389_356.out
            have hms116_1 := NB389_368.out
            refine skip_ (w1 := ?_) (by rfl) rfl ?_ ?_
            rotate_left
            ·go_simp
             rfl
            refine hK.out _ _ ⟨((cell_far (p := ⟨gb389, _, none⟩) NB368_389.out _).trans (((cell_far (p := ⟨gb389, _, none⟩) NB368_389.out _).trans (hHeld.1)))), ((cell_far (p := ⟨gb389, _, none⟩) NB368_389.out _).trans (((cell_far (p := ⟨gb389, _, none⟩) NB368_389.out _).trans (hHeld.2))))⟩ (fun hHeld => ?_)
            clear hK K
            refine pure_ (i := 9) (N := some 15) (v := ?_) (a' := ?_) #[true, true, true, true, true, true, true, true, true, true] rfl rfl (any_of HT_.out (by kernel_rfl)) (fun _ _ _ h => h) (Or.inl ⟨by rfl, ?_⟩) ?_ ?_
            rotate_left
            ·intro w'
             go_simp
             with_reducible rfl
            rotate_left
            ·simp only [Act.put, List.setIfInBounds_toArray, List.set_cons_zero, List.set_cons_succ, i64_w, i32_w]
             rfl
            refine done_ (done_of HT_.out (by kernel_rfl)) ?_
            have hnb117 := NB389_356.out
            have hnc117 := NB356_389.out
            have hnb118 := NB389_368.out
            have hnc118 := NB368_389.out
            have hcz119_0 : w113.cell? ⟨gb389, 0, none⟩ = some (.int .i64 0) := (blk_cell BK389.out 0).trans rfl
            have hcz119_1 : w113.cell? ⟨gb389, 1, none⟩ = some (.slice none 0 0) := (blk_cell BK389.out 1).trans rfl
            have hfz119_0 := blk_frozen BK389.out 0
            have hfz119_1 := blk_frozen BK389.out 1
            have hcz120_0 : w113.cell? ⟨gb356, 0, none⟩ = some (.int .i64 a0_0) := (blk_cell BK356.out 0).trans rfl
            have hcz120_1 : w113.cell? ⟨gb356, 1, none⟩ = some (.slice A0_1 l0_1.length c0_1) := (blk_cell BK356.out 1).trans rfl
            have hfz120_0 := blk_frozen BK356.out 0
            have hfz120_1 := blk_frozen BK356.out 1
            go_upto_region 18 with (first|((with_reducible refine gate_callee (f := 35) rfl ?_);refine goesL_ (some 136) rfl rfl Try.func35 (by kernel_rfl) rfl #[.agg #[.int .i64 t384, .slice Ao115 t385.length co115], .agg #[.int .i64 a0_0, .slice A0_1 l0_1.length c0_1]] rfl (by (try simp only [List.map_toArray, List.map_cons, List.map_nil]);first | done | rfl | (simp only [List.length_drop, List.length_take];rfl)) ?_;(with_reducible refine (permgroup_Same.calls k3 t384 _ _ t385 a0_0 _ _ l0_1 t390 t391 _ ?side1 ?side2 ?side3 ?side4 A100.out).mono ?_);(case side1 => refine (Kd.S_reads' (e := 47) (base := w.heap.size) (ok := fun k_ => (some k_ ≠ (v382 : Value).ownBlock ∧ some k_ ≠ (.slice Ao68 t364.length co68 : Value).ownBlock)) (n := t385.length) (c := co115) ?_).2.2;exact (by (with_reducible repeat (first|apply Kd.S_alloc | apply Kd.S_drewN | apply Kd.S_drew));exact (Kd.S_mono (Kd.S_far (p := ⟨gb389, 1, none⟩) (Kd.S_far (p := ⟨gb389, 0, none⟩) (Kd.S_types HO387.out BK389.out (by decide)) (fun _ hk => hk.2) (.int .i64 t384)) (fun _ hk => hk.2) (.slice Ao115 t385.length co115)) (fun _ h_ => h_.1))));(case side2 => exact (Kd.S_reads' HO387.out).2.1);(case side3 => exact Kd.C_below HR0_1.out (by repeat (first|(with_reducible first | exact HB.out | apply below_alloc | apply pw_below_drewN | apply below_drew1 | refine below_set ?_ GE356.out | refine below_set ?_ GE368.out | refine below_set ?_ GE389.out) | exact HB.out)));(case side4 => exact HC0_1.out);rintro e w121 ⟨rfl, hb⟩;refine ⟨_, rfl, ?_⟩;have n0_ := Aside0.mk (Kd.S_below (by (with_reducible repeat (first|apply Kd.S_alloc | apply Kd.S_drewN | apply Kd.S_drew));exact (Kd.S_mono (Kd.S_far (p := ⟨gb389, 1, none⟩) (Kd.S_far (p := ⟨gb389, 0, none⟩) (Kd.S_types HO_369001.out BK389.out (by decide)) (fun _ hk => hk.2) (.int .i64 t384)) (fun _ hk => hk.2) (.slice Ao115 t385.length co115)) (fun _ h_ => h_.1))) hb);have n1_ := Aside0.mk (Kd.R_below (by (with_reducible repeat (first|apply Kd.R_alloc | apply Kd.R_drewN | apply Kd.R_drew));exact (Kd.R_mono (Kd.R_far (p := ⟨gb389, 1, none⟩) (Kd.R_far (p := ⟨gb389, 0, none⟩) (Kd.R_types HO383.out BK389.out (by decide)) (fun _ hk => hk.2) (.int .i64 t384)) (fun _ hk => hk.2) (.slice Ao115 t385.length co115)) (fun _ h_ => h_.1))) hb);have n2_ := Aside0.mk (Kd.S_below (by (with_reducible repeat (first|apply Kd.S_alloc | apply Kd.S_drewN | apply Kd.S_drew));exact (Kd.S_mono (Kd.S_far (p := ⟨gb389, 1, none⟩) (Kd.S_far (p := ⟨gb389, 0, none⟩) (Kd.S_types HO387.out BK389.out (by decide)) (fun _ hk => hk.2) (.int .i64 t384)) (fun _ hk => hk.2) (.slice Ao115 t385.length co115)) (fun _ h_ => h_.1))) hb);have n3_ := Aside0.mk (blk_below (g := gb356) (o := .cells #[.int .i64 a0_0, .slice A0_1 l0_1.length c0_1] 24 (0, 0)) (by (with_reducible repeat (first|refine blk_drewN ?_ _ | refine blk_drew ?_ | refine blk_alloc ?_ _));refine blk_far ?_ NB356_389.out _;(with_reducible repeat (first|refine blk_drewN ?_ _ | refine blk_drew ?_ | refine blk_alloc ?_ _));refine blk_far ?_ NB356_389.out _;(with_reducible repeat (first|refine blk_drewN ?_ _ | refine blk_drew ?_ | refine blk_alloc ?_ _));exact BK356.out) hb);have n4_ := Aside0.mk (blk_below (g := gb368) (o := .cells #[.int .i64 t363, .slice Ao68 t364.length co68] 24 (0, 0)) (by (with_reducible repeat (first|refine blk_drewN ?_ _ | refine blk_drew ?_ | refine blk_alloc ?_ _));refine blk_far ?_ NB368_389.out _;(with_reducible repeat (first|refine blk_drewN ?_ _ | refine blk_drew ?_ | refine blk_alloc ?_ _));refine blk_far ?_ NB368_389.out _;(with_reducible repeat (first|refine blk_drewN ?_ _ | refine blk_drew ?_ | refine blk_alloc ?_ _));exact BK368.out) hb);have n5_ := Aside0.mk (blk_below (g := gb389) (o := .cells #[.int .i64 t384, .slice Ao115 t385.length co115] 24 (0, 0)) (by (with_reducible repeat (first|refine blk_drewN ?_ _ | refine blk_drew ?_ | refine blk_alloc ?_ _));refine blk_put (cs := #[.int .i64 t384, .slice none 0 0]) ?_ 1 _ rfl;(with_reducible repeat (first|refine blk_drewN ?_ _ | refine blk_drew ?_ | refine blk_alloc ?_ _));refine blk_put (cs := #[.int .i64 0, .slice none 0 0]) ?_ 0 _ rfl;(with_reducible repeat (first|refine blk_drewN ?_ _ | refine blk_drew ?_ | refine blk_alloc ?_ _));exact BK389.out) hb);have n6_ := Aside0.mk (below_step (by repeat (first|(with_reducible first | exact HB.out | apply below_alloc | apply pw_below_drewN | apply below_drew1 | refine below_set ?_ GE356.out | refine below_set ?_ GE368.out | refine below_set ?_ GE389.out) | exact HB.out)) hb);clear HO_369001;clear HO383;clear HO387;clear BK356;clear BK368;clear BK389;clear HB;have HO_369001 := n0_;have HO383 := n1_;have HO387 := n2_;have BK356 := n3_;have BK368 := n4_;have BK389 := n5_;have HB := n6_;clear n0_ n1_ n2_ n3_ n4_ n5_ n6_;(try clear hb);(try clear hb2);(try clear hk);(try clear hi)))
            (try simp only [Act.put, List.setIfInBounds_toArray, List.set_cons_zero, List.set_cons_succ])
            go_cut [161] (fun v161 wc => ∃ (kq : Nat) (x161_100 : Bool), v161 = .bool x161_100 ∧ Aside0 (galoislaw23_PermgroupConjugates.j3 kq l1 l2 x161_100 a0_0 l0_1 t363 t364 = some r) ∧ Aside0 (kq ≤ k3) ∧ Aside0 (Kd.S (Kd.slice 3 (Kd.int .i64)) 47 wc w.heap.size (fun k_ => some k_ ≠ ((.slice Ao115 t385.length co115) : Value).ownBlock) (.slice Ao68 t364.length co68) t364) ∧ Aside0 (Kd.S (Kd.slice 3 (Kd.int .i64)) 47 wc w.heap.size (fun k_ => some k_ ≠ ((.slice Ao68 t364.length co68) : Value).ownBlock) (.slice Ao115 t385.length co115) t385) ∧ Aside0 (wc.heap[gb356]? = some (.cells #[.int .i64 a0_0, (.slice A0_1 l0_1.length c0_1)] 24 (0, 0))) ∧ Aside0 (wc.heap[gb368]? = some (.cells #[.int .i64 t363, (.slice Ao68 t364.length co68)] 24 (0, 0))) ∧ Aside0 (wc.heap[gb389]? = some (.cells #[.int .i64 t384, (.slice Ao115 t385.length co115)] 24 (0, 0))) ∧ Aside0 (Below w.heap.size w wc))
            case first =>
             have H := HC101.out
             clear HC101
             by_cases c122 : t378 = 0
             ·rw [if_pos c122] at H
              have c122b0 : (t378 == 0) = true := beq_iff_eq.mpr c122
              have c122b1 : (t378 != 0) = false := bne_eq_false_iff_eq.mpr c122
              clear c122
              (first|rw [c122b0] | (simp only [i64_w, i32_w];rw [c122b0]) | skip)
              by_cases c123 : t380 = 0
              ·rw [if_pos c123] at H
               have c123b0 : (t380 == 0) = true := beq_iff_eq.mpr c123
               have c123b1 : (t380 != 0) = false := bne_eq_false_iff_eq.mpr c123
               clear c123
               by_cases c124 : t377 = t379
               ·rw [if_pos c124] at H
                have c124b0 : (t377 == t379) = true := beq_iff_eq.mpr c124
                have c124b1 : (t377 != t379) = false := bne_eq_false_iff_eq.mpr c124
                clear c124
                by_cases c125 : t388 = 0
                ·rw [if_pos c125] at H
                 have c125b0 : (t388 == 0) = true := beq_iff_eq.mpr c125
                 have c125b1 : (t388 != 0) = false := bne_eq_false_iff_eq.mpr c125
                 clear c125
                 by_cases c126 : t391 = 0
                 ·rw [if_pos c126] at H
                  have c126b0 : (t391 == 0) = true := beq_iff_eq.mpr c126
                  have c126b1 : (t391 != 0) = false := bne_eq_false_iff_eq.mpr c126
                  clear c126
                  have H' := Aside0.mk H
                  clear H
                  as_aux_lemma =>
                   go_wp2
                   go_meet
                   case rel => exact ⟨_, (!t390), (by first | rfl | (simp;done) | (simp [*];done)), H', ⟨by have := HJ3.out;have := HJ61.out;have := HK3.out;first | omega | exact Nat.le_refl _⟩, ⟨by (with_reducible repeat (first|apply Kd.S_alloc | apply Kd.S_drewN | apply Kd.S_drew));exact Kd.S_mono HO_369001.out (fun _ hk => hk.2)⟩, ⟨by (with_reducible repeat (first|apply Kd.S_alloc | apply Kd.S_drewN | apply Kd.S_drew));exact Kd.S_mono HO387.out (fun _ hk => hk.2)⟩, ⟨by (with_reducible repeat (first|refine blk_drewN ?_ _ | refine blk_drew ?_ | refine blk_alloc ?_ _));exact BK356.out⟩, ⟨by (with_reducible repeat (first|refine blk_drewN ?_ _ | refine blk_drew ?_ | refine blk_alloc ?_ _));exact BK368.out⟩, ⟨by (with_reducible repeat (first|refine blk_drewN ?_ _ | refine blk_drew ?_ | refine blk_alloc ?_ _));exact BK389.out⟩, ⟨by repeat (first|(with_reducible first | exact HB.out | apply below_alloc | apply pw_below_drewN | apply below_drew1 | refine below_set ?_ GE356.out | refine below_set ?_ GE368.out | refine below_set ?_ GE389.out) | exact HB.out)⟩⟩
                 ·rw [if_neg c126] at H
                  have c126b0 : (t391 == 0) = false := beq_eq_false_iff_ne.mpr c126
                  have c126b1 : (t391 != 0) = true := bne_iff_ne.mpr c126
                  have H' := Aside0.mk H
                  clear H
                  as_aux_lemma =>
                   go_wp2
                   go_meet
                   case rel => exact ⟨_, (true), (by first | rfl | (simp;done) | (simp [*];done)), H', ⟨by have := HJ3.out;have := HJ61.out;have := HK3.out;first | omega | exact Nat.le_refl _⟩, ⟨by (with_reducible repeat (first|apply Kd.S_alloc | apply Kd.S_drewN | apply Kd.S_drew));exact Kd.S_mono HO_369001.out (fun _ hk => hk.2)⟩, ⟨by (with_reducible repeat (first|apply Kd.S_alloc | apply Kd.S_drewN | apply Kd.S_drew));exact Kd.S_mono HO387.out (fun _ hk => hk.2)⟩, ⟨by (with_reducible repeat (first|refine blk_drewN ?_ _ | refine blk_drew ?_ | refine blk_alloc ?_ _));exact BK356.out⟩, ⟨by (with_reducible repeat (first|refine blk_drewN ?_ _ | refine blk_drew ?_ | refine blk_alloc ?_ _));exact BK368.out⟩, ⟨by (with_reducible repeat (first|refine blk_drewN ?_ _ | refine blk_drew ?_ | refine blk_alloc ?_ _));exact BK389.out⟩, ⟨by repeat (first|(with_reducible first | exact HB.out | apply below_alloc | apply pw_below_drewN | apply below_drew1 | refine below_set ?_ GE356.out | refine below_set ?_ GE368.out | refine below_set ?_ GE389.out) | exact HB.out)⟩⟩
                ·rw [if_neg c125] at H
                 have c125b0 : (t388 == 0) = false := beq_eq_false_iff_ne.mpr c125
                 have c125b1 : (t388 != 0) = true := bne_iff_ne.mpr c125
                 have H' := Aside0.mk H
                 clear H
                 as_aux_lemma =>
                  go_wp2
                  go_meet
                  case rel => exact ⟨_, (true), (by first | rfl | (simp;done) | (simp [*];done)), H', ⟨by have := HJ3.out;have := HJ61.out;have := HK3.out;first | omega | exact Nat.le_refl _⟩, ⟨by (with_reducible repeat (first|apply Kd.S_alloc | apply Kd.S_drewN | apply Kd.S_drew));exact Kd.S_mono HO_369001.out (fun _ hk => hk.2)⟩, ⟨by (with_reducible repeat (first|apply Kd.S_alloc | apply Kd.S_drewN | apply Kd.S_drew));exact Kd.S_mono HO387.out (fun _ hk => hk.2)⟩, ⟨by (with_reducible repeat (first|refine blk_drewN ?_ _ | refine blk_drew ?_ | refine blk_alloc ?_ _));exact BK356.out⟩, ⟨by (with_reducible repeat (first|refine blk_drewN ?_ _ | refine blk_drew ?_ | refine blk_alloc ?_ _));exact BK368.out⟩, ⟨by (with_reducible repeat (first|refine blk_drewN ?_ _ | refine blk_drew ?_ | refine blk_alloc ?_ _));exact BK389.out⟩, ⟨by repeat (first|(with_reducible first | exact HB.out | apply below_alloc | apply pw_below_drewN | apply below_drew1 | refine below_set ?_ GE356.out | refine below_set ?_ GE368.out | refine below_set ?_ GE389.out) | exact HB.out)⟩⟩
               ·rw [if_neg c124] at H
                have c124b0 : (t377 == t379) = false := beq_eq_false_iff_ne.mpr c124
                have c124b1 : (t377 != t379) = true := bne_iff_ne.mpr c124
                have H' := Aside0.mk H
                clear H
                as_aux_lemma =>
                 go_wp2
                 go_meet
                 case rel => exact ⟨_, (true), (by first | rfl | (simp;done) | (simp [*];done)), H', ⟨by have := HJ3.out;have := HJ61.out;have := HK3.out;first | omega | exact Nat.le_refl _⟩, ⟨by (with_reducible repeat (first|apply Kd.S_alloc | apply Kd.S_drewN | apply Kd.S_drew));exact Kd.S_mono HO_369001.out (fun _ hk => hk.2)⟩, ⟨by (with_reducible repeat (first|apply Kd.S_alloc | apply Kd.S_drewN | apply Kd.S_drew));exact Kd.S_mono HO387.out (fun _ hk => hk.2)⟩, ⟨by (with_reducible repeat (first|refine blk_drewN ?_ _ | refine blk_drew ?_ | refine blk_alloc ?_ _));exact BK356.out⟩, ⟨by (with_reducible repeat (first|refine blk_drewN ?_ _ | refine blk_drew ?_ | refine blk_alloc ?_ _));exact BK368.out⟩, ⟨by (with_reducible repeat (first|refine blk_drewN ?_ _ | refine blk_drew ?_ | refine blk_alloc ?_ _));exact BK389.out⟩, ⟨by repeat (first|(with_reducible first | exact HB.out | apply below_alloc | apply pw_below_drewN | apply below_drew1 | refine below_set ?_ GE356.out | refine below_set ?_ GE368.out | refine below_set ?_ GE389.out) | exact HB.out)⟩⟩
              ·rw [if_neg c123] at H
               have c123b0 : (t380 == 0) = false := beq_eq_false_iff_ne.mpr c123
               have c123b1 : (t380 != 0) = true := bne_iff_ne.mpr c123
               have H' := Aside0.mk H
               clear H
               as_aux_lemma =>
                go_wp2
                go_meet
                case rel => exact ⟨_, (true), (by first | rfl | (simp;done) | (simp [*];done)), H', ⟨by have := HJ3.out;have := HJ61.out;have := HK3.out;first | omega | exact Nat.le_refl _⟩, ⟨by (with_reducible repeat (first|apply Kd.S_alloc | apply Kd.S_drewN | apply Kd.S_drew));exact Kd.S_mono HO_369001.out (fun _ hk => hk.2)⟩, ⟨by (with_reducible repeat (first|apply Kd.S_alloc | apply Kd.S_drewN | apply Kd.S_drew));exact Kd.S_mono HO387.out (fun _ hk => hk.2)⟩, ⟨by (with_reducible repeat (first|refine blk_drewN ?_ _ | refine blk_drew ?_ | refine blk_alloc ?_ _));exact BK356.out⟩, ⟨by (with_reducible repeat (first|refine blk_drewN ?_ _ | refine blk_drew ?_ | refine blk_alloc ?_ _));exact BK368.out⟩, ⟨by (with_reducible repeat (first|refine blk_drewN ?_ _ | refine blk_drew ?_ | refine blk_alloc ?_ _));exact BK389.out⟩, ⟨by repeat (first|(with_reducible first | exact HB.out | apply below_alloc | apply pw_below_drewN | apply below_drew1 | refine below_set ?_ GE356.out | refine below_set ?_ GE368.out | refine below_set ?_ GE389.out) | exact HB.out)⟩⟩
             ·rw [if_neg c122] at H
              have c122b0 : (t378 == 0) = false := beq_eq_false_iff_ne.mpr c122
              have c122b1 : (t378 != 0) = true := bne_iff_ne.mpr c122
              (first|rw [c122b0] | (simp only [i64_w, i32_w];rw [c122b0]) | skip)
              have H' := Aside0.mk H
              clear H
              as_aux_lemma =>
               go_wp2
               go_meet
               case rel => exact ⟨_, (true), (by first | rfl | (simp;done) | (simp [*];done)), H', ⟨by have := HJ3.out;have := HJ61.out;have := HK3.out;first | omega | exact Nat.le_refl _⟩, ⟨by (with_reducible repeat (first|apply Kd.S_alloc | apply Kd.S_drewN | apply Kd.S_drew));exact Kd.S_mono HO_369001.out (fun _ hk => hk.2)⟩, ⟨by (with_reducible repeat (first|apply Kd.S_alloc | apply Kd.S_drewN | apply Kd.S_drew));exact Kd.S_mono HO387.out (fun _ hk => hk.2)⟩, ⟨by (with_reducible repeat (first|refine blk_drewN ?_ _ | refine blk_drew ?_ | refine blk_alloc ?_ _));exact BK356.out⟩, ⟨by (with_reducible repeat (first|refine blk_drewN ?_ _ | refine blk_drew ?_ | refine blk_alloc ?_ _));exact BK368.out⟩, ⟨by (with_reducible repeat (first|refine blk_drewN ?_ _ | refine blk_drew ?_ | refine blk_alloc ?_ _));exact BK389.out⟩, ⟨by repeat (first|(with_reducible first | exact HB.out | apply below_alloc | apply pw_below_drewN | apply below_drew1 | refine below_set ?_ GE356.out | refine below_set ?_ GE368.out | refine below_set ?_ GE389.out) | exact HB.out)⟩⟩
            case rest =>
             clear HC101
             try clear c1
             try clear p2
             try clear c3
             try clear c11
             try clear c12
             try clear c32
             try clear c34
             try clear c35
             try clear c117
             try clear c118
             try clear c122
             try clear c122b0
             try clear c122b1
             try clear c123
             try clear c123b0
             try clear c123b1
             try clear c124
             try clear c124b0
             try clear c124b1
             try clear c125
             try clear c125b0
             try clear c125b1
             try clear c126
             try clear c126b0
             try clear c126b1
             try clear hcz104_0
             try clear hcz104_1
             try clear hcz106_0
             try clear hcz106_1
             try clear hcz119_0
             try clear hcz119_1
             try clear hcz120_0
             try clear hcz120_1
             try clear hfz103_1
             try clear hfz104_0
             try clear hfz104_1
             try clear hfz106_0
             try clear hfz106_1
             try clear hfz119_0
             try clear hfz119_1
             try clear hfz120_0
             try clear hfz120_1
             obtain ⟨kq, x161_100, rfl, HA, HJ100, HO_369001, HO_390001, BK356, BK368, BK389, HB⟩ := hcut
             cases kq with
             | zero => exact absurd HA.out (by simp [galoislaw23_PermgroupConjugates.j3])
             | succ kj100 =>
              have H := HA.out
              clear HA
              simp only [galoislaw23_PermgroupConjugates.j3] at H
              by_cases c127 : x161_100 = true
              ·subst c127
               have H1 : (some false) = some r := by rw [if_pos rfl] at H;exact H
               clear H
               have H := H1
               clear H1
               obtain rfl := Option.some.inj H
               as_aux_lemma =>
                go_wp2
                go_ret
                exact ⟨by first | rfl | (simp [errW_none, errW_some] <;> rfl) | (simp [*, errW_none, errW_some] <;> rfl), by repeat (first|(with_reducible first | exact HB.out | apply below_alloc | apply pw_below_drewN | apply below_drew1 | refine below_set ?_ GE356.out | refine below_set ?_ GE368.out | refine below_set ?_ GE389.out) | exact HB.out)⟩
              ·replace c127 := Bool.eq_false_iff.mpr c127
               subst c127
               have H1 : ((galoisref22_Check.f kj100 l2).bind fun t392 => (if t392 = 0 then (galoislaw23_PermgroupConjugates.j4 kj100 l1 l2 ((l2.length : Int) != a0_0) a0_0 l0_1 t363 t364) else (galoislaw23_PermgroupConjugates.j4 kj100 l1 l2 true a0_0 l0_1 t363 t364))) = some r := by rw [if_neg (show ¬ (false = true) by decide)] at H;exact H
               clear H
               have H := H1
               clear H1
               have HC128 := Aside0.mk H
               clear H
               go_upto_region 20 with (fail)
               go_cut [171] (fun v171 wc => ∃ (kq : Nat) (x171_127 : Bool), v171 = .bool x171_127 ∧ Aside0 (galoislaw23_PermgroupConjugates.j4 kq l1 l2 x171_127 a0_0 l0_1 t363 t364 = some r) ∧ Aside0 (kq ≤ kj100) ∧ Aside0 (Kd.S (Kd.slice 3 (Kd.int .i64)) 47 wc w.heap.size (fun k_ => some k_ ≠ ((.slice Ao115 t385.length co115) : Value).ownBlock) (.slice Ao68 t364.length co68) t364) ∧ Aside0 (Kd.S (Kd.slice 3 (Kd.int .i64)) 47 wc w.heap.size (fun k_ => some k_ ≠ ((.slice Ao68 t364.length co68) : Value).ownBlock) (.slice Ao115 t385.length co115) t385) ∧ Aside0 (wc.heap[gb356]? = some (.cells #[.int .i64 a0_0, (.slice A0_1 l0_1.length c0_1)] 24 (0, 0))) ∧ Aside0 (wc.heap[gb368]? = some (.cells #[.int .i64 t363, (.slice Ao68 t364.length co68)] 24 (0, 0))) ∧ Aside0 (wc.heap[gb389]? = some (.cells #[.int .i64 t384, (.slice Ao115 t385.length co115)] 24 (0, 0))) ∧ Aside0 (Below w.heap.size w wc))
               case first =>
                have H := HC128.out
                clear HC128
                replace H := Option.bind_eq_some_iff.mp H
                obtain ⟨t392, A1290, H⟩ := H
                replace H : (if t392 = 0 then (galoislaw23_PermgroupConjugates.j4 kj100 l1 l2 ((l2.length : Int) != a0_0) a0_0 l0_1 t363 t364) else (galoislaw23_PermgroupConjugates.j4 kj100 l1 l2 true a0_0 l0_1 t363 t364)) = some r := H
                have A129 := Aside0.mk A1290
                clear A1290
                by_cases c130 : t392 = 0
                ·rw [if_pos c130] at H
                 have c130b0 : (t392 == 0) = true := beq_iff_eq.mpr c130
                 have c130b1 : (t392 != 0) = false := bne_eq_false_iff_eq.mpr c130
                 clear c130
                 (first|rw [c130b0] | (simp only [i64_w, i32_w];rw [c130b0]) | skip)
                 have H' := Aside0.mk H
                 clear H
                 as_aux_lemma =>
                  go_wp2_with (first|((with_reducible refine gate_callee (f := 36) rfl ?_);refine goesL_ (some 163) rfl rfl Try.func36 (by kernel_rfl) rfl #[.slice A2 l2.length c2] rfl (by (try simp only [List.map_toArray, List.map_cons, List.map_nil]);first | done | rfl | (simp only [List.length_drop, List.length_take];rfl)) ?_;(with_reducible refine (galoisref22_Check.calls kj100 _ _ l2 t392 _ ?side1 ?side2 A129.out).mono ?_);(case side1 => repeat (first|exact (Kd.C_below HR2.out HB.out) | (with_reducible refine Kd.C_alloc ?_ _) | (with_reducible refine Kd.C_drewN ?_ _) | (with_reducible refine Kd.C_drew ?_)));(case side2 => exact HC2.out);rintro e w' ⟨rfl, ⟨nd, rfl⟩⟩;refine ⟨_, rfl, ?_⟩;have hnb131 := NB356_368.out;have hnc131 := NB368_356.out;have hnb132 := NB356_389.out;have hnc132 := NB389_356.out;have hcz133_0 : wc.cell? ⟨gb356, 0, none⟩ = some (.int .i64 a0_0) := (blk_cell BK356.out 0).trans rfl;have hcz133_1 : wc.cell? ⟨gb356, 1, none⟩ = some (.slice A0_1 l0_1.length c0_1) := (blk_cell BK356.out 1).trans rfl;have hfz133_0 := blk_frozen BK356.out 0;have hfz133_1 := blk_frozen BK356.out 1))
                  go_meet
                  case rel => exact ⟨_, (((l2.length : Int) != a0_0)), (by first | rfl | (simp;done) | (simp [*];done)), H', ⟨by have := HJ3.out;have := HJ61.out;have := HK3.out;have := HJ100.out;first | omega | exact Nat.le_refl _⟩, ⟨by (with_reducible repeat (first|apply Kd.S_alloc | apply Kd.S_drewN | apply Kd.S_drew));exact HO_369001.out⟩, ⟨by (with_reducible repeat (first|apply Kd.S_alloc | apply Kd.S_drewN | apply Kd.S_drew));exact HO_390001.out⟩, ⟨by (with_reducible repeat (first|refine blk_drewN ?_ _ | refine blk_drew ?_ | refine blk_alloc ?_ _));exact BK356.out⟩, ⟨by (with_reducible repeat (first|refine blk_drewN ?_ _ | refine blk_drew ?_ | refine blk_alloc ?_ _));exact BK368.out⟩, ⟨by (with_reducible repeat (first|refine blk_drewN ?_ _ | refine blk_drew ?_ | refine blk_alloc ?_ _));exact BK389.out⟩, ⟨by repeat (first|(with_reducible first | exact HB.out | apply below_alloc | apply pw_below_drewN | apply below_drew1 | refine below_set ?_ GE356.out | refine below_set ?_ GE368.out | refine below_set ?_ GE389.out) | exact HB.out)⟩⟩
                ·rw [if_neg c130] at H
                 have c130b0 : (t392 == 0) = false := beq_eq_false_iff_ne.mpr c130
                 have c130b1 : (t392 != 0) = true := bne_iff_ne.mpr c130
                 (first|rw [c130b0] | (simp only [i64_w, i32_w];rw [c130b0]) | skip)
                 have H' := Aside0.mk H
                 clear H
                 as_aux_lemma =>
                  go_wp2_with (first|((with_reducible refine gate_callee (f := 36) rfl ?_);refine goesL_ (some 163) rfl rfl Try.func36 (by kernel_rfl) rfl #[.slice A2 l2.length c2] rfl (by (try simp only [List.map_toArray, List.map_cons, List.map_nil]);first | done | rfl | (simp only [List.length_drop, List.length_take];rfl)) ?_;(with_reducible refine (galoisref22_Check.calls kj100 _ _ l2 t392 _ ?side1 ?side2 A129.out).mono ?_);(case side1 => repeat (first|exact (Kd.C_below HR2.out HB.out) | (with_reducible refine Kd.C_alloc ?_ _) | (with_reducible refine Kd.C_drewN ?_ _) | (with_reducible refine Kd.C_drew ?_)));(case side2 => exact HC2.out);rintro e w' ⟨rfl, ⟨nd, rfl⟩⟩;refine ⟨_, rfl, ?_⟩))
                  go_meet
                  case rel => exact ⟨_, (true), (by first | rfl | (simp;done) | (simp [*];done)), H', ⟨by have := HJ3.out;have := HJ61.out;have := HK3.out;have := HJ100.out;first | omega | exact Nat.le_refl _⟩, ⟨by (with_reducible repeat (first|apply Kd.S_alloc | apply Kd.S_drewN | apply Kd.S_drew));exact HO_369001.out⟩, ⟨by (with_reducible repeat (first|apply Kd.S_alloc | apply Kd.S_drewN | apply Kd.S_drew));exact HO_390001.out⟩, ⟨by (with_reducible repeat (first|refine blk_drewN ?_ _ | refine blk_drew ?_ | refine blk_alloc ?_ _));exact BK356.out⟩, ⟨by (with_reducible repeat (first|refine blk_drewN ?_ _ | refine blk_drew ?_ | refine blk_alloc ?_ _));exact BK368.out⟩, ⟨by (with_reducible repeat (first|refine blk_drewN ?_ _ | refine blk_drew ?_ | refine blk_alloc ?_ _));exact BK389.out⟩, ⟨by repeat (first|(with_reducible first | exact HB.out | apply below_alloc | apply pw_below_drewN | apply below_drew1 | refine below_set ?_ GE356.out | refine below_set ?_ GE368.out | refine below_set ?_ GE389.out) | exact HB.out)⟩⟩
               case rest =>
                clear HC128
                try clear c1
                try clear c2
                try clear p2
                try clear c3
                try clear c11
                try clear c12
                try clear c13
                try clear c32
                try clear c34
                try clear c35
                try clear c36
                try clear c117
                try clear c118
                try clear c122
                try clear c122b0
                try clear c122b1
                try clear c123
                try clear c123b0
                try clear c123b1
                try clear c124
                try clear c124b0
                try clear c124b1
                try clear c125
                try clear c125b0
                try clear c125b1
                try clear c126
                try clear c126b0
                try clear c126b1
                try clear c127
                try clear c130
                try clear c130b0
                try clear c130b1
                try clear c131
                try clear c132
                try clear hcz104_0
                try clear hcz104_1
                try clear hcz106_0
                try clear hcz106_1
                try clear hcz119_0
                try clear hcz119_1
                try clear hcz120_0
                try clear hcz120_1
                try clear hcz133_0
                try clear hcz133_1
                try clear hfz103_1
                try clear hfz104_0
                try clear hfz104_1
                try clear hfz106_0
                try clear hfz106_1
                try clear hfz119_0
                try clear hfz119_1
                try clear hfz120_0
                try clear hfz120_1
                try clear hfz133_0
                try clear hfz133_1
                try clear p2
                obtain ⟨kq, x171_127, rfl, HA, HJ127, HO_369001, HO_390001, BK356, BK368, BK389, HB⟩ := hcut
                cases kq with
                | zero => exact absurd HA.out (by simp [galoislaw23_PermgroupConjugates.j4])
                | succ kj127 =>
                 have H := HA.out
                 clear HA
                 simp only [galoislaw23_PermgroupConjugates.j4] at H
                 by_cases c134 : x171_127 = true
                 ·subst c134
                  have H1 : (some true) = some r := by rw [if_pos rfl] at H;exact H
                  clear H
                  have H := H1
                  clear H1
                  obtain rfl := Option.some.inj H
                  as_aux_lemma =>
                   go_wp2
                   go_ret
                   exact ⟨by first | rfl | (simp [errW_none, errW_some] <;> rfl) | (simp [*, errW_none, errW_some] <;> rfl), by repeat (first|(with_reducible first | exact HB.out | apply below_alloc | apply pw_below_drewN | apply below_drew1 | refine below_set ?_ GE356.out | refine below_set ?_ GE368.out | refine below_set ?_ GE389.out) | exact HB.out)⟩
                 ·replace c134 := Bool.eq_false_iff.mpr c134
                  subst c134
                  have H1 : ((permgroup_Contains.f kj127 a0_0 l0_1 l2).bind fun bt393 => ((galoisref22_Conjugate.f kj127 l2 l1).bind fun t395 => ((permgroup_Contains.f kj127 t363 t364 t395).bind fun bt398 => (if bt393.2 = 0 then (if bt398.2 = 0 then (some (bt393.1 == bt398.1)) else (some false)) else (some false))))) = some r := by rw [if_neg (show ¬ (false = true) by decide)] at H;exact H
                  clear H
                  have H := H1
                  clear H1
                  replace H := Option.bind_eq_some_iff.mp H
                  obtain ⟨⟨t393, t394⟩, A1350, H⟩ := H
                  replace H : ((galoisref22_Conjugate.f kj127 l2 l1).bind fun t395 => ((permgroup_Contains.f kj127 t363 t364 t395).bind fun bt398 => (if t394 = 0 then (if bt398.2 = 0 then (some (t393 == bt398.1)) else (some false)) else (some false)))) = some r := H
                  have A135 := Aside0.mk A1350
                  clear A1350
                  replace H := Option.bind_eq_some_iff.mp H
                  obtain ⟨t395, A1360, H⟩ := H
                  replace H : ((permgroup_Contains.f kj127 t363 t364 t395).bind fun bt398 => (if t394 = 0 then (if bt398.2 = 0 then (some (t393 == bt398.1)) else (some false)) else (some false))) = some r := H
                  have A136 := Aside0.mk A1360
                  clear A1360
                  replace H := Option.bind_eq_some_iff.mp H
                  obtain ⟨⟨t398, t399⟩, A1370, H⟩ := H
                  replace H : (if t394 = 0 then (if t399 = 0 then (some (t393 == t398)) else (some false)) else (some false)) = some r := H
                  have A137 := Aside0.mk A1370
                  clear A1370
                  by_cases c138 : t394 = 0
                  ·rw [if_pos c138] at H
                   have c138b0 : (t394 == 0) = true := beq_iff_eq.mpr c138
                   have c138b1 : (t394 != 0) = false := bne_eq_false_iff_eq.mpr c138
                   clear c138
                   by_cases c139 : t399 = 0
                   ·rw [if_pos c139] at H
                    have c139b0 : (t399 == 0) = true := beq_iff_eq.mpr c139
                    have c139b1 : (t399 != 0) = false := bne_eq_false_iff_eq.mpr c139
                    clear c139
                    obtain rfl := Option.some.inj H
                    have hnb140 := NB356_368.out
                    have hnc140 := NB368_356.out
                    have hnb141 := NB356_389.out
                    have hnc141 := NB389_356.out
                    have hcz142_0 : wc.cell? ⟨gb356, 0, none⟩ = some (.int .i64 a0_0) := (blk_cell BK356.out 0).trans rfl
                    have hcz142_1 : wc.cell? ⟨gb356, 1, none⟩ = some (.slice A0_1 l0_1.length c0_1) := (blk_cell BK356.out 1).trans rfl
                    have hfz142_0 := blk_frozen BK356.out 0
                    have hfz142_1 := blk_frozen BK356.out 1
                    try go_wp2_with (first|((with_reducible refine gate_callee (f := 24) rfl ?_);refine goesL_ (some 175) rfl rfl Try.func24 (by kernel_rfl) rfl #[.agg #[.int .i64 a0_0, .slice A0_1 l0_1.length c0_1], .slice A2 l2.length c2] rfl (by (try simp only [List.map_toArray, List.map_cons, List.map_nil]);first | done | rfl | (simp only [List.length_drop, List.length_take];rfl)) ?_;(with_reducible refine (permgroup_Contains.calls kj127 a0_0 _ _ l0_1 _ _ l2 t393 t394 _ ?side1 ?side2 ?side3 ?side4 A135.out).mono ?_);(case side1 => repeat (first|exact (Kd.C_below HR0_1.out HB.out) | (with_reducible refine Kd.C_alloc ?_ _) | (with_reducible refine Kd.C_drewN ?_ _) | (with_reducible refine Kd.C_drew ?_)));(case side2 => exact HC0_1.out);(case side3 => repeat (first|exact (Kd.C_below HR2.out HB.out) | (with_reducible refine Kd.C_alloc ?_ _) | (with_reducible refine Kd.C_drewN ?_ _) | (with_reducible refine Kd.C_drew ?_)));(case side4 => exact HC2.out);rintro e w143 ⟨rfl, hb⟩;refine ⟨_, rfl, ?_⟩;have n0_ := Aside0.mk (Kd.S_below (by (with_reducible repeat (first|apply Kd.S_alloc | apply Kd.S_drewN | apply Kd.S_drew));exact HO_369001.out) hb);have n1_ := Aside0.mk (Kd.S_below (by (with_reducible repeat (first|apply Kd.S_alloc | apply Kd.S_drewN | apply Kd.S_drew));exact HO_390001.out) hb);have n2_ := Aside0.mk (blk_below (g := gb356) (o := .cells #[.int .i64 a0_0, .slice A0_1 l0_1.length c0_1] 24 (0, 0)) (by (with_reducible repeat (first|refine blk_drewN ?_ _ | refine blk_drew ?_ | refine blk_alloc ?_ _));exact BK356.out) hb);have n3_ := Aside0.mk (blk_below (g := gb368) (o := .cells #[.int .i64 t363, .slice Ao68 t364.length co68] 24 (0, 0)) (by (with_reducible repeat (first|refine blk_drewN ?_ _ | refine blk_drew ?_ | refine blk_alloc ?_ _));exact BK368.out) hb);have n4_ := Aside0.mk (blk_below (g := gb389) (o := .cells #[.int .i64 t384, .slice Ao115 t385.length co115] 24 (0, 0)) (by (with_reducible repeat (first|refine blk_drewN ?_ _ | refine blk_drew ?_ | refine blk_alloc ?_ _));exact BK389.out) hb);have n5_ := Aside0.mk (below_step (by repeat (first|(with_reducible first | exact HB.out | apply below_alloc | apply pw_below_drewN | apply below_drew1 | refine below_set ?_ GE356.out | refine below_set ?_ GE368.out | refine below_set ?_ GE389.out) | exact HB.out)) hb);clear HO_369001;clear HO_390001;clear BK356;clear BK368;clear BK389;clear HB;have HO_369001 := n0_;have HO_390001 := n1_;have BK356 := n2_;have BK368 := n3_;have BK389 := n4_;have HB := n5_;clear n0_ n1_ n2_ n3_ n4_ n5_;(try clear hb);(try clear hb2);(try clear hk);(try clear hi)))
                    have n0_ := Aside0.mk (Kd.S_drew HO_369001.out)
                    have n1_ := Aside0.mk (Kd.S_drew HO_390001.out)
                    have n2_ := Aside0.mk (blk_drew BK356.out)
                    have n3_ := Aside0.mk (blk_drew BK368.out)
                    have n4_ := Aside0.mk (blk_drew BK389.out)
                    have n5_ := Aside0.mk (below_drew1 HB.out)
                    clear HO_369001 HO_390001 BK356 BK368 BK389 HB
                    have HO_369001 := n0_
                    have HO_390001 := n1_
                    have BK356 := n2_
                    have BK368 := n3_
                    have BK389 := n4_
                    have HB := n5_
                    clear n0_ n1_ n2_ n3_ n4_ n5_
                    refine start_ (n := 10) (S := fun w' => w'.cell? ⟨gb368, 0, none⟩ = some (.int .i64 t363) ∧ w'.cell? ⟨gb368, 1, none⟩ = some (.slice Ao68 t364.length co68)) (ds := []) #[false, false, false, false, false, false, false, false, false, false] (by kernel_rfl) rfl rfl ⟨(blk_cell BK368.out 0).trans rfl, (blk_cell BK368.out 1).trans rfl⟩ (fun hHeld => ?_);refine with_tabW galoislaw23_PermgroupConjugates.tab23 galoislaw23_PermgroupConjugates.bits23 (fun HT_ HW_ => ?_)
                    generalize w143.drew = w144 at HO_369001 HO_390001 BK356 BK368 BK389 HB hHeld ⊢
                    refine pure_ (i := 1) (N := some 180) (v := ?_) (a' := ?_) #[false, true, false, false, false, false, false, false, false, false] rfl rfl (any_of HT_.out (by kernel_rfl)) (fun _ _ _ h => h) (Or.inl ⟨by rfl, ?_⟩) ?_ ?_
                    rotate_left
                    ·intro w'
                     go_simp
                     with_reducible rfl
                    rotate_left
                    ·simp only [Act.put, List.setIfInBounds_toArray, List.set_cons_zero, List.set_cons_succ, i64_w, i32_w]
                     rfl
                    refine pure_ (i := 2) (N := some 181) (v := ?_) (a' := ?_) #[false, true, true, false, false, false, false, false, false, false] rfl rfl (any_of HT_.out (by kernel_rfl)) (fun _ _ _ h => h) (Or.inl ⟨by rfl, ?_⟩) ?_ ?_
                    rotate_left
                    ·intro w'
                     go_simp
                     with_reducible rfl
                    rotate_left
                    ·simp only [Act.put, List.setIfInBounds_toArray, List.set_cons_zero, List.set_cons_succ, i64_w, i32_w]
                     rfl
                    refine take_ (i := 0) (N := some 179) (v := ?_) (a' := ?_) #[true, true, true, false, false, false, false, false, false, false] rfl rfl (take_ofW HT_.out HW_.out (by kernel_rfl)) (fun _ _ _ h => h) (Or.inl ⟨by rfl, ?_⟩) hHeld ?_ ?_
                    rotate_left
                    ·rintro w' ⟨s0, s1⟩
                     go_simp
                     with_reducible rfl
                    rotate_left
                    ·simp only [Act.put, List.setIfInBounds_toArray, List.set_cons_zero, List.set_cons_succ, i64_w, i32_w]
                     rfl
                    refine one_ (i := 3) (N := some 182) #[true, true, true, true, false, false, false, false, false, false] rfl rfl (one_of HT_.out (by kernel_rfl)) (by decide) (fun K hK => ?_)
                    refine goes_ Try.func33 (by kernel_rfl) rfl #[.slice A2 l2.length c2, .slice A1 l1.length c1] (by rfl) rfl rfl (by (try simp only [List.map_toArray, List.map_cons, List.map_nil]);first | done | rfl | (simp only [List.length_drop, List.length_take];rfl)) ?_
                    with_reducible refine (galoisref22_Conjugate.calls kj127 _ _ l2 _ _ l1 t395 _ ?side1 ?side2 ?side3 ?side4 A136.out).mono ?_
                    (case side1 => repeat (first|exact (Kd.C_below HR2.out HB.out) | (with_reducible refine Kd.C_alloc ?_ _) | (with_reducible refine Kd.C_drewN ?_ _) | (with_reducible refine Kd.C_drew ?_)))
                    (case side2 => exact HC2.out)
                    (case side3 => repeat (first|exact (Kd.C_below HR1.out HB.out) | (with_reducible refine Kd.C_alloc ?_ _) | (with_reducible refine Kd.C_drewN ?_ _) | (with_reducible refine Kd.C_drew ?_)))
                    (case side4 => exact HC1.out)
                    rintro e w145 ⟨v396, rfl, ho0, hb⟩
                    refine ⟨_, rfl, ?_⟩
                    have n0_ := Aside0.mk (Kd.S_elder' (by (with_reducible repeat (first|apply Kd.S_alloc | apply Kd.S_drewN | apply Kd.S_drew));exact HO_369001.out) (Kd.R_base ho0) hb)
                    have n1_ := Aside0.mk (Kd.S_elder' (by (with_reducible repeat (first|apply Kd.S_alloc | apply Kd.S_drewN | apply Kd.S_drew));exact HO_390001.out) (Kd.R_base ho0) hb)
                    have n2_ := Aside0.mk (Kd.R_lower ho0 (below_size (by repeat (first|(with_reducible first | exact HB.out | apply below_alloc | apply pw_below_drewN | apply below_drew1 | refine below_set ?_ GE356.out | refine below_set ?_ GE368.out | refine below_set ?_ GE389.out) | exact HB.out))))
                    have n3_ := Aside0.mk (blk_below (g := gb356) (o := .cells #[.int .i64 a0_0, .slice A0_1 l0_1.length c0_1] 24 (0, 0)) (by (with_reducible repeat (first|refine blk_drewN ?_ _ | refine blk_drew ?_ | refine blk_alloc ?_ _));exact BK356.out) hb)
                    have n4_ := Aside0.mk (blk_below (g := gb368) (o := .cells #[.int .i64 t363, .slice Ao68 t364.length co68] 24 (0, 0)) (by (with_reducible repeat (first|refine blk_drewN ?_ _ | refine blk_drew ?_ | refine blk_alloc ?_ _));exact BK368.out) hb)
                    have n5_ := Aside0.mk (blk_below (g := gb389) (o := .cells #[.int .i64 t384, .slice Ao115 t385.length co115] 24 (0, 0)) (by (with_reducible repeat (first|refine blk_drewN ?_ _ | refine blk_drew ?_ | refine blk_alloc ?_ _));exact BK389.out) hb)
                    have n6_ := Aside0.mk (below_step (by repeat (first|(with_reducible first | exact HB.out | apply below_alloc | apply pw_below_drewN | apply below_drew1 | refine below_set ?_ GE356.out | refine below_set ?_ GE368.out | refine below_set ?_ GE389.out) | exact HB.out)) hb)
                    clear HO_369001 HO_390001 BK356 BK368 BK389 HB
                    have HO_369001 := n0_
                    have HO_390001 := n1_
                    have HO397 := n2_
                    have BK356 := n3_
                    have BK368 := n4_
                    have BK389 := n5_
                    have HB := n6_
                    clear n0_ n1_ n2_ n3_ n4_ n5_ n6_
                    (try clear hb)
                    (try clear hb2)
                    (try clear hk)
                    (try clear hi)
                    (try clear ho0)
                    obtain ⟨Ao146, co146, eo146⟩ := Kd.R_slice HO397.out
                    (first|subst eo146 | (injection eo146 with f1_ f2_ f3_;have f4_ := f1_.symm;have f5_ := f3_.symm;clear f1_ f2_ f3_;subst f4_;subst f5_))
                    refine hK.out _ _ ⟨(blk_cell BK368.out 0).trans rfl, (blk_cell BK368.out 1).trans rfl⟩ (fun hHeld => ?_)
                    clear hK K
                    refine norm_ (a' := ?_) ?_ ?_
                    rotate_left
                    ·show Act.put _ (some 182) _ = _
                     simp only [Act.put, List.setIfInBounds_toArray, List.set_cons_zero, List.set_cons_succ, i64_w, i32_w]
                     rfl
                    refine one_ (i := 4) (N := some 183) #[true, true, true, true, true, false, false, false, false, false] rfl rfl (one_of HT_.out (by kernel_rfl)) (by decide) (fun K hK => ?_)
                    refine goes_ Try.func24 (by kernel_rfl) rfl #[.agg #[.int .i64 t363, .slice Ao68 t364.length co68], .slice Ao146 t395.length co146] (by rfl) rfl rfl (by (try simp only [List.map_toArray, List.map_cons, List.map_nil]);first | done | rfl | (simp only [List.length_drop, List.length_take];rfl)) ?_
                    with_reducible refine (permgroup_Contains.calls kj127 t363 _ _ t364 _ _ t395 t398 t399 _ ?side1 ?side2 ?side3 ?side4 A137.out).mono ?_
                    (case side1 => repeat (first|exact (Kd.S_reads' HO_369001.out).2.2 | (with_reducible refine Kd.C_alloc ?_ _) | (with_reducible refine Kd.C_drewN ?_ _) | (with_reducible refine Kd.C_drew ?_)))
                    (case side2 => exact (Kd.S_reads' HO_369001.out).2.1)
                    (case side3 => repeat (first|exact (Kd.R_reads' HO397.out).2.2 | (with_reducible refine Kd.C_alloc ?_ _) | (with_reducible refine Kd.C_drewN ?_ _) | (with_reducible refine Kd.C_drew ?_)))
                    (case side4 => exact (Kd.R_reads' HO397.out).2.1)
                    rintro e w147 ⟨rfl, hb⟩
                    refine ⟨_, rfl, ?_⟩
                    have n0_ := Aside0.mk (Kd.S_below (by (with_reducible repeat (first|apply Kd.S_alloc | apply Kd.S_drewN | apply Kd.S_drew));exact HO_369001.out) hb)
                    have n1_ := Aside0.mk (Kd.S_below (by (with_reducible repeat (first|apply Kd.S_alloc | apply Kd.S_drewN | apply Kd.S_drew));exact HO_390001.out) hb)
                    have n2_ := Aside0.mk (Kd.R_below (by (with_reducible repeat (first|apply Kd.R_alloc | apply Kd.R_drewN | apply Kd.R_drew));exact HO397.out) hb)
                    have n3_ := Aside0.mk (blk_below (g := gb356) (o := .cells #[.int .i64 a0_0, .slice A0_1 l0_1.length c0_1] 24 (0, 0)) (by (with_reducible repeat (first|refine blk_drewN ?_ _ | refine blk_drew ?_ | refine blk_alloc ?_ _));exact BK356.out) hb)
                    have n4_ := Aside0.mk (blk_below (g := gb368) (o := .cells #[.int .i64 t363, .slice Ao68 t364.length co68] 24 (0, 0)) (by (with_reducible repeat (first|refine blk_drewN ?_ _ | refine blk_drew ?_ | refine blk_alloc ?_ _));exact BK368.out) hb)
                    have n5_ := Aside0.mk (blk_below (g := gb389) (o := .cells #[.int .i64 t384, .slice Ao115 t385.length co115] 24 (0, 0)) (by (with_reducible repeat (first|refine blk_drewN ?_ _ | refine blk_drew ?_ | refine blk_alloc ?_ _));exact BK389.out) hb)
                    have n6_ := Aside0.mk (below_step (by repeat (first|(with_reducible first | exact HB.out | apply below_alloc | apply pw_below_drewN | apply below_drew1 | refine below_set ?_ GE356.out | refine below_set ?_ GE368.out | refine below_set ?_ GE389.out) | exact HB.out)) hb)
                    clear HO_369001 HO_390001 HO397 BK356 BK368 BK389 HB
                    have HO_369001 := n0_
                    have HO_390001 := n1_
                    have HO397 := n2_
                    have BK356 := n3_
                    have BK368 := n4_
                    have BK389 := n5_
                    have HB := n6_
                    clear n0_ n1_ n2_ n3_ n4_ n5_ n6_
                    (try clear hb)
                    (try clear hb2)
                    (try clear hk)
                    (try clear hi)
                    refine hK.out _ _ ⟨(blk_cell BK368.out 0).trans rfl, (blk_cell BK368.out 1).trans rfl⟩ (fun hHeld => ?_)
                    clear hK K
                    refine norm_ (a' := ?_) ?_ ?_
                    rotate_left
                    ·show Act.put _ (some 183) _ = _
                     simp only [Act.put, List.setIfInBounds_toArray, List.set_cons_zero, List.set_cons_succ, i64_w, i32_w]
                     rfl
                    refine pure_ (i := 5) (N := some 178) (v := ?_) (a' := ?_) #[true, true, true, true, true, true, false, false, false, false] rfl rfl (any_of HT_.out (by kernel_rfl)) (fun _ _ _ h => h) (Or.inl ⟨by rfl, ?_⟩) ?_ ?_
                    rotate_left
                    ·intro w'
                     go_simp
                     with_reducible rfl
                    rotate_left
                    ·simp only [Act.put, List.setIfInBounds_toArray, List.set_cons_zero, List.set_cons_succ, i64_w, i32_w]
                     rfl
                    refine pure_ (i := 6) (N := some 184) (v := ?_) (a' := ?_) #[true, true, true, true, true, true, true, false, false, false] rfl rfl (any_of HT_.out (by kernel_rfl)) (fun _ _ _ h => h) (Or.inl ⟨by rfl, ?_⟩) ?_ ?_
                    rotate_left
                    ·intro w'
                     go_simp
                     with_reducible rfl
                    rotate_left
                    ·simp only [Act.put, List.setIfInBounds_toArray, List.set_cons_zero, List.set_cons_succ, i64_w, i32_w]
                     rfl
                    refine pure_ (i := 7) (N := some 185) (v := ?_) (a' := ?_) #[true, true, true, true, true, true, true, true, false, false] rfl rfl (any_of HT_.out (by kernel_rfl)) (fun _ _ _ h => h) (Or.inl ⟨by rfl, ?_⟩) ?_ ?_
                    rotate_left
                    ·intro w'
                     go_simp
                     with_reducible rfl
                    rotate_left
                    ·simp only [Act.put, List.setIfInBounds_toArray, List.set_cons_zero, List.set_cons_succ, i64_w, i32_w]
                     rfl
                    refine pure_ (i := 8) (N := some 19) (v := ?_) (a' := ?_) #[true, true, true, true, true, true, true, true, true, false] rfl rfl (any_of HT_.out (by kernel_rfl)) (fun _ _ _ h => h) (Or.inl ⟨by rfl, ?_⟩) ?_ ?_
                    rotate_left
                    ·intro w'
                     go_simp
                     with_reducible rfl
                    rotate_left
                    ·simp only [Act.put, List.setIfInBounds_toArray, List.set_cons_zero, List.set_cons_succ, i64_w, i32_w]
                     rfl
                    refine pure_ (i := 9) (N := some 13) (v := ?_) (a' := ?_) #[true, true, true, true, true, true, true, true, true, true] rfl rfl (any_of HT_.out (by kernel_rfl)) (fun _ _ _ h => h) (Or.inl ⟨by rfl, ?_⟩) ?_ ?_
                    rotate_left
                    ·intro w'
                     go_simp
                     with_reducible rfl
                    rotate_left
                    ·simp only [Act.put, List.setIfInBounds_toArray, List.set_cons_zero, List.set_cons_succ, i64_w, i32_w]
                     rfl
                    refine done_ (done_of HT_.out (by kernel_rfl)) ?_
                    try go_wp2
                    go_ret
                    exact ⟨by first | rfl | (simp [errW_none, errW_some] <;> rfl) | (simp [*, errW_none, errW_some] <;> rfl), by repeat (first|(with_reducible first | exact HB.out | apply below_alloc | apply pw_below_drewN | apply below_drew1 | refine below_set ?_ GE356.out | refine below_set ?_ GE368.out | refine below_set ?_ GE389.out) | exact HB.out)⟩
                   ·rw [if_neg c139] at H
                    have c139b0 : (t399 == 0) = false := beq_eq_false_iff_ne.mpr c139
                    have c139b1 : (t399 != 0) = true := bne_iff_ne.mpr c139
                    obtain rfl := Option.some.inj H
                    have hnb148 := NB356_368.out
                    have hnc148 := NB368_356.out
                    have hnb149 := NB356_389.out
                    have hnc149 := NB389_356.out
                    have hcz150_0 : wc.cell? ⟨gb356, 0, none⟩ = some (.int .i64 a0_0) := (blk_cell BK356.out 0).trans rfl
                    have hcz150_1 : wc.cell? ⟨gb356, 1, none⟩ = some (.slice A0_1 l0_1.length c0_1) := (blk_cell BK356.out 1).trans rfl
                    have hfz150_0 := blk_frozen BK356.out 0
                    have hfz150_1 := blk_frozen BK356.out 1
                    try go_wp2_with (first|((with_reducible refine gate_callee (f := 24) rfl ?_);refine goesL_ (some 175) rfl rfl Try.func24 (by kernel_rfl) rfl #[.agg #[.int .i64 a0_0, .slice A0_1 l0_1.length c0_1], .slice A2 l2.length c2] rfl (by (try simp only [List.map_toArray, List.map_cons, List.map_nil]);first | done | rfl | (simp only [List.length_drop, List.length_take];rfl)) ?_;(with_reducible refine (permgroup_Contains.calls kj127 a0_0 _ _ l0_1 _ _ l2 t393 t394 _ ?side1 ?side2 ?side3 ?side4 A135.out).mono ?_);(case side1 => repeat (first|exact (Kd.C_below HR0_1.out HB.out) | (with_reducible refine Kd.C_alloc ?_ _) | (with_reducible refine Kd.C_drewN ?_ _) | (with_reducible refine Kd.C_drew ?_)));(case side2 => exact HC0_1.out);(case side3 => repeat (first|exact (Kd.C_below HR2.out HB.out) | (with_reducible refine Kd.C_alloc ?_ _) | (with_reducible refine Kd.C_drewN ?_ _) | (with_reducible refine Kd.C_drew ?_)));(case side4 => exact HC2.out);rintro e w151 ⟨rfl, hb⟩;refine ⟨_, rfl, ?_⟩;have n0_ := Aside0.mk (Kd.S_below (by (with_reducible repeat (first|apply Kd.S_alloc | apply Kd.S_drewN | apply Kd.S_drew));exact HO_369001.out) hb);have n1_ := Aside0.mk (Kd.S_below (by (with_reducible repeat (first|apply Kd.S_alloc | apply Kd.S_drewN | apply Kd.S_drew));exact HO_390001.out) hb);have n2_ := Aside0.mk (blk_below (g := gb356) (o := .cells #[.int .i64 a0_0, .slice A0_1 l0_1.length c0_1] 24 (0, 0)) (by (with_reducible repeat (first|refine blk_drewN ?_ _ | refine blk_drew ?_ | refine blk_alloc ?_ _));exact BK356.out) hb);have n3_ := Aside0.mk (blk_below (g := gb368) (o := .cells #[.int .i64 t363, .slice Ao68 t364.length co68] 24 (0, 0)) (by (with_reducible repeat (first|refine blk_drewN ?_ _ | refine blk_drew ?_ | refine blk_alloc ?_ _));exact BK368.out) hb);have n4_ := Aside0.mk (blk_below (g := gb389) (o := .cells #[.int .i64 t384, .slice Ao115 t385.length co115] 24 (0, 0)) (by (with_reducible repeat (first|refine blk_drewN ?_ _ | refine blk_drew ?_ | refine blk_alloc ?_ _));exact BK389.out) hb);have n5_ := Aside0.mk (below_step (by repeat (first|(with_reducible first | exact HB.out | apply below_alloc | apply pw_below_drewN | apply below_drew1 | refine below_set ?_ GE356.out | refine below_set ?_ GE368.out | refine below_set ?_ GE389.out) | exact HB.out)) hb);clear HO_369001;clear HO_390001;clear BK356;clear BK368;clear BK389;clear HB;have HO_369001 := n0_;have HO_390001 := n1_;have BK356 := n2_;have BK368 := n3_;have BK389 := n4_;have HB := n5_;clear n0_ n1_ n2_ n3_ n4_ n5_;(try clear hb);(try clear hb2);(try clear hk);(try clear hi)))
                    have n0_ := Aside0.mk (Kd.S_drew HO_369001.out)
                    have n1_ := Aside0.mk (Kd.S_drew HO_390001.out)
                    have n2_ := Aside0.mk (blk_drew BK356.out)
                    have n3_ := Aside0.mk (blk_drew BK368.out)
                    have n4_ := Aside0.mk (blk_drew BK389.out)
                    have n5_ := Aside0.mk (below_drew1 HB.out)
                    clear HO_369001 HO_390001 BK356 BK368 BK389 HB
                    have HO_369001 := n0_
                    have HO_390001 := n1_
                    have BK356 := n2_
                    have BK368 := n3_
                    have BK389 := n4_
                    have HB := n5_
                    clear n0_ n1_ n2_ n3_ n4_ n5_
                    refine start_ (n := 10) (S := fun w' => w'.cell? ⟨gb368, 0, none⟩ = some (.int .i64 t363) ∧ w'.cell? ⟨gb368, 1, none⟩ = some (.slice Ao68 t364.length co68)) (ds := []) #[false, false, false, false, false, false, false, false, false, false] (by kernel_rfl) rfl rfl ⟨(blk_cell BK368.out 0).trans rfl, (blk_cell BK368.out 1).trans rfl⟩ (fun hHeld => ?_);refine with_tabW galoislaw23_PermgroupConjugates.tab23 galoislaw23_PermgroupConjugates.bits23 (fun HT_ HW_ => ?_)
                    generalize w151.drew = w152 at HO_369001 HO_390001 BK356 BK368 BK389 HB hHeld ⊢
                    refine pure_ (i := 1) (N := some 180) (v := ?_) (a' := ?_) #[false, true, false, false, false, false, false, false, false, false] rfl rfl (any_of HT_.out (by kernel_rfl)) (fun _ _ _ h => h) (Or.inl ⟨by rfl, ?_⟩) ?_ ?_
                    rotate_left
                    ·intro w'
                     go_simp
                     with_reducible rfl
                    rotate_left
                    ·simp only [Act.put, List.setIfInBounds_toArray, List.set_cons_zero, List.set_cons_succ, i64_w, i32_w]
                     rfl
                    refine pure_ (i := 2) (N := some 181) (v := ?_) (a' := ?_) #[false, true, true, false, false, false, false, false, false, false] rfl rfl (any_of HT_.out (by kernel_rfl)) (fun _ _ _ h => h) (Or.inl ⟨by rfl, ?_⟩) ?_ ?_
                    rotate_left
                    ·intro w'
                     go_simp
                     with_reducible rfl
                    rotate_left
                    ·simp only [Act.put, List.setIfInBounds_toArray, List.set_cons_zero, List.set_cons_succ, i64_w, i32_w]
                     rfl
                    refine take_ (i := 0) (N := some 179) (v := ?_) (a' := ?_) #[true, true, true, false, false, false, false, false, false, false] rfl rfl (take_ofW HT_.out HW_.out (by kernel_rfl)) (fun _ _ _ h => h) (Or.inl ⟨by rfl, ?_⟩) hHeld ?_ ?_
                    rotate_left
                    ·rintro w' ⟨s0, s1⟩
                     go_simp
                     with_reducible rfl
                    rotate_left
                    ·simp only [Act.put, List.setIfInBounds_toArray, List.set_cons_zero, List.set_cons_succ, i64_w, i32_w]
                     rfl
                    refine one_ (i := 3) (N := some 182) #[true, true, true, true, false, false, false, false, false, false] rfl rfl (one_of HT_.out (by kernel_rfl)) (by decide) (fun K hK => ?_)
                    refine goes_ Try.func33 (by kernel_rfl) rfl #[.slice A2 l2.length c2, .slice A1 l1.length c1] (by rfl) rfl rfl (by (try simp only [List.map_toArray, List.map_cons, List.map_nil]);first | done | rfl | (simp only [List.length_drop, List.length_take];rfl)) ?_
                    with_reducible refine (galoisref22_Conjugate.calls kj127 _ _ l2 _ _ l1 t395 _ ?side1 ?side2 ?side3 ?side4 A136.out).mono ?_
                    (case side1 => repeat (first|exact (Kd.C_below HR2.out HB.out) | (with_reducible refine Kd.C_alloc ?_ _) | (with_reducible refine Kd.C_drewN ?_ _) | (with_reducible refine Kd.C_drew ?_)))
                    (case side2 => exact HC2.out)
                    (case side3 => repeat (first|exact (Kd.C_below HR1.out HB.out) | (with_reducible refine Kd.C_alloc ?_ _) | (with_reducible refine Kd.C_drewN ?_ _) | (with_reducible refine Kd.C_drew ?_)))
                    (case side4 => exact HC1.out)
                    rintro e w153 ⟨v396, rfl, ho0, hb⟩
                    refine ⟨_, rfl, ?_⟩
                    have n0_ := Aside0.mk (Kd.S_elder' (by (with_reducible repeat (first|apply Kd.S_alloc | apply Kd.S_drewN | apply Kd.S_drew));exact HO_369001.out) (Kd.R_base ho0) hb)
                    have n1_ := Aside0.mk (Kd.S_elder' (by (with_reducible repeat (first|apply Kd.S_alloc | apply Kd.S_drewN | apply Kd.S_drew));exact HO_390001.out) (Kd.R_base ho0) hb)
                    have n2_ := Aside0.mk (Kd.R_lower ho0 (below_size (by repeat (first|(with_reducible first | exact HB.out | apply below_alloc | apply pw_below_drewN | apply below_drew1 | refine below_set ?_ GE356.out | refine below_set ?_ GE368.out | refine below_set ?_ GE389.out) | exact HB.out))))
                    have n3_ := Aside0.mk (blk_below (g := gb356) (o := .cells #[.int .i64 a0_0, .slice A0_1 l0_1.length c0_1] 24 (0, 0)) (by (with_reducible repeat (first|refine blk_drewN ?_ _ | refine blk_drew ?_ | refine blk_alloc ?_ _));exact BK356.out) hb)
                    have n4_ := Aside0.mk (blk_below (g := gb368) (o := .cells #[.int .i64 t363, .slice Ao68 t364.length co68] 24 (0, 0)) (by (with_reducible repeat (first|refine blk_drewN ?_ _ | refine blk_drew ?_ | refine blk_alloc ?_ _));exact BK368.out) hb)
                    have n5_ := Aside0.mk (blk_below (g := gb389) (o := .cells #[.int .i64 t384, .slice Ao115 t385.length co115] 24 (0, 0)) (by (with_reducible repeat (first|refine blk_drewN ?_ _ | refine blk_drew ?_ | refine blk_alloc ?_ _));exact BK389.out) hb)
                    have n6_ := Aside0.mk (below_step (by repeat (first|(with_reducible first | exact HB.out | apply below_alloc | apply pw_below_drewN | apply below_drew1 | refine below_set ?_ GE356.out | refine below_set ?_ GE368.out | refine below_set ?_ GE389.out) | exact HB.out)) hb)
                    clear HO_369001 HO_390001 BK356 BK368 BK389 HB
                    have HO_369001 := n0_
                    have HO_390001 := n1_
                    have HO397 := n2_
                    have BK356 := n3_
                    have BK368 := n4_
                    have BK389 := n5_
                    have HB := n6_
                    clear n0_ n1_ n2_ n3_ n4_ n5_ n6_
                    (try clear hb)
                    (try clear hb2)
                    (try clear hk)
                    (try clear hi)
                    (try clear ho0)
                    obtain ⟨Ao154, co154, eo154⟩ := Kd.R_slice HO397.out
                    (first|subst eo154 | (injection eo154 with f1_ f2_ f3_;have f4_ := f1_.symm;have f5_ := f3_.symm;clear f1_ f2_ f3_;subst f4_;subst f5_))
                    refine hK.out _ _ ⟨(blk_cell BK368.out 0).trans rfl, (blk_cell BK368.out 1).trans rfl⟩ (fun hHeld => ?_)
                    clear hK K
                    refine norm_ (a' := ?_) ?_ ?_
                    rotate_left
                    ·show Act.put _ (some 182) _ = _
                     simp only [Act.put, List.setIfInBounds_toArray, List.set_cons_zero, List.set_cons_succ, i64_w, i32_w]
                     rfl
                    refine one_ (i := 4) (N := some 183) #[true, true, true, true, true, false, false, false, false, false] rfl rfl (one_of HT_.out (by kernel_rfl)) (by decide) (fun K hK => ?_)
                    refine goes_ Try.func24 (by kernel_rfl) rfl #[.agg #[.int .i64 t363, .slice Ao68 t364.length co68], .slice Ao154 t395.length co154] (by rfl) rfl rfl (by (try simp only [List.map_toArray, List.map_cons, List.map_nil]);first | done | rfl | (simp only [List.length_drop, List.length_take];rfl)) ?_
                    with_reducible refine (permgroup_Contains.calls kj127 t363 _ _ t364 _ _ t395 t398 t399 _ ?side1 ?side2 ?side3 ?side4 A137.out).mono ?_
                    (case side1 => repeat (first|exact (Kd.S_reads' HO_369001.out).2.2 | (with_reducible refine Kd.C_alloc ?_ _) | (with_reducible refine Kd.C_drewN ?_ _) | (with_reducible refine Kd.C_drew ?_)))
                    (case side2 => exact (Kd.S_reads' HO_369001.out).2.1)
                    (case side3 => repeat (first|exact (Kd.R_reads' HO397.out).2.2 | (with_reducible refine Kd.C_alloc ?_ _) | (with_reducible refine Kd.C_drewN ?_ _) | (with_reducible refine Kd.C_drew ?_)))
                    (case side4 => exact (Kd.R_reads' HO397.out).2.1)
                    rintro e w155 ⟨rfl, hb⟩
                    refine ⟨_, rfl, ?_⟩
                    have n0_ := Aside0.mk (Kd.S_below (by (with_reducible repeat (first|apply Kd.S_alloc | apply Kd.S_drewN | apply Kd.S_drew));exact HO_369001.out) hb)
                    have n1_ := Aside0.mk (Kd.S_below (by (with_reducible repeat (first|apply Kd.S_alloc | apply Kd.S_drewN | apply Kd.S_drew));exact HO_390001.out) hb)
                    have n2_ := Aside0.mk (Kd.R_below (by (with_reducible repeat (first|apply Kd.R_alloc | apply Kd.R_drewN | apply Kd.R_drew));exact HO397.out) hb)
                    have n3_ := Aside0.mk (blk_below (g := gb356) (o := .cells #[.int .i64 a0_0, .slice A0_1 l0_1.length c0_1] 24 (0, 0)) (by (with_reducible repeat (first|refine blk_drewN ?_ _ | refine blk_drew ?_ | refine blk_alloc ?_ _));exact BK356.out) hb)
                    have n4_ := Aside0.mk (blk_below (g := gb368) (o := .cells #[.int .i64 t363, .slice Ao68 t364.length co68] 24 (0, 0)) (by (with_reducible repeat (first|refine blk_drewN ?_ _ | refine blk_drew ?_ | refine blk_alloc ?_ _));exact BK368.out) hb)
                    have n5_ := Aside0.mk (blk_below (g := gb389) (o := .cells #[.int .i64 t384, .slice Ao115 t385.length co115] 24 (0, 0)) (by (with_reducible repeat (first|refine blk_drewN ?_ _ | refine blk_drew ?_ | refine blk_alloc ?_ _));exact BK389.out) hb)
                    have n6_ := Aside0.mk (below_step (by repeat (first|(with_reducible first | exact HB.out | apply below_alloc | apply pw_below_drewN | apply below_drew1 | refine below_set ?_ GE356.out | refine below_set ?_ GE368.out | refine below_set ?_ GE389.out) | exact HB.out)) hb)
                    clear HO_369001 HO_390001 HO397 BK356 BK368 BK389 HB
                    have HO_369001 := n0_
                    have HO_390001 := n1_
                    have HO397 := n2_
                    have BK356 := n3_
                    have BK368 := n4_
                    have BK389 := n5_
                    have HB := n6_
                    clear n0_ n1_ n2_ n3_ n4_ n5_ n6_
                    (try clear hb)
                    (try clear hb2)
                    (try clear hk)
                    (try clear hi)
                    refine hK.out _ _ ⟨(blk_cell BK368.out 0).trans rfl, (blk_cell BK368.out 1).trans rfl⟩ (fun hHeld => ?_)
                    clear hK K
                    refine norm_ (a' := ?_) ?_ ?_
                    rotate_left
                    ·show Act.put _ (some 183) _ = _
                     simp only [Act.put, List.setIfInBounds_toArray, List.set_cons_zero, List.set_cons_succ, i64_w, i32_w]
                     rfl
                    refine pure_ (i := 5) (N := some 178) (v := ?_) (a' := ?_) #[true, true, true, true, true, true, false, false, false, false] rfl rfl (any_of HT_.out (by kernel_rfl)) (fun _ _ _ h => h) (Or.inl ⟨by rfl, ?_⟩) ?_ ?_
                    rotate_left
                    ·intro w'
                     go_simp
                     with_reducible rfl
                    rotate_left
                    ·simp only [Act.put, List.setIfInBounds_toArray, List.set_cons_zero, List.set_cons_succ, i64_w, i32_w]
                     rfl
                    refine pure_ (i := 6) (N := some 184) (v := ?_) (a' := ?_) #[true, true, true, true, true, true, true, false, false, false] rfl rfl (any_of HT_.out (by kernel_rfl)) (fun _ _ _ h => h) (Or.inl ⟨by rfl, ?_⟩) ?_ ?_
                    rotate_left
                    ·intro w'
                     go_simp
                     with_reducible rfl
                    rotate_left
                    ·simp only [Act.put, List.setIfInBounds_toArray, List.set_cons_zero, List.set_cons_succ, i64_w, i32_w]
                     rfl
                    refine pure_ (i := 7) (N := some 185) (v := ?_) (a' := ?_) #[true, true, true, true, true, true, true, true, false, false] rfl rfl (any_of HT_.out (by kernel_rfl)) (fun _ _ _ h => h) (Or.inl ⟨by rfl, ?_⟩) ?_ ?_
                    rotate_left
                    ·intro w'
                     go_simp
                     with_reducible rfl
                    rotate_left
                    ·simp only [Act.put, List.setIfInBounds_toArray, List.set_cons_zero, List.set_cons_succ, i64_w, i32_w]
                     rfl
                    refine pure_ (i := 8) (N := some 19) (v := ?_) (a' := ?_) #[true, true, true, true, true, true, true, true, true, false] rfl rfl (any_of HT_.out (by kernel_rfl)) (fun _ _ _ h => h) (Or.inl ⟨by rfl, ?_⟩) ?_ ?_
                    rotate_left
                    ·intro w'
                     go_simp
                     with_reducible rfl
                    rotate_left
                    ·simp only [Act.put, List.setIfInBounds_toArray, List.set_cons_zero, List.set_cons_succ, i64_w, i32_w]
                     rfl
                    refine pure_ (i := 9) (N := some 13) (v := ?_) (a' := ?_) #[true, true, true, true, true, true, true, true, true, true] rfl rfl (any_of HT_.out (by kernel_rfl)) (fun _ _ _ h => h) (Or.inl ⟨by rfl, ?_⟩) ?_ ?_
                    rotate_left
                    ·intro w'
                     go_simp
                     with_reducible rfl
                    rotate_left
                    ·simp only [Act.put, List.setIfInBounds_toArray, List.set_cons_zero, List.set_cons_succ, i64_w, i32_w]
                     rfl
                    refine done_ (done_of HT_.out (by kernel_rfl)) ?_
                    try go_wp2
                    go_ret
                    exact ⟨by first | rfl | (simp [errW_none, errW_some] <;> rfl) | (simp [*, errW_none, errW_some] <;> rfl), by repeat (first|(with_reducible first | exact HB.out | apply below_alloc | apply pw_below_drewN | apply below_drew1 | refine below_set ?_ GE356.out | refine below_set ?_ GE368.out | refine below_set ?_ GE389.out) | exact HB.out)⟩
                  ·rw [if_neg c138] at H
                   have c138b0 : (t394 == 0) = false := beq_eq_false_iff_ne.mpr c138
                   have c138b1 : (t394 != 0) = true := bne_iff_ne.mpr c138
                   obtain rfl := Option.some.inj H
                   have hnb156 := NB356_368.out
                   have hnc156 := NB368_356.out
                   have hnb157 := NB356_389.out
                   have hnc157 := NB389_356.out
                   have hcz158_0 : wc.cell? ⟨gb356, 0, none⟩ = some (.int .i64 a0_0) := (blk_cell BK356.out 0).trans rfl
                   have hcz158_1 : wc.cell? ⟨gb356, 1, none⟩ = some (.slice A0_1 l0_1.length c0_1) := (blk_cell BK356.out 1).trans rfl
                   have hfz158_0 := blk_frozen BK356.out 0
                   have hfz158_1 := blk_frozen BK356.out 1
                   try go_wp2_with (first|((with_reducible refine gate_callee (f := 24) rfl ?_);refine goesL_ (some 175) rfl rfl Try.func24 (by kernel_rfl) rfl #[.agg #[.int .i64 a0_0, .slice A0_1 l0_1.length c0_1], .slice A2 l2.length c2] rfl (by (try simp only [List.map_toArray, List.map_cons, List.map_nil]);first | done | rfl | (simp only [List.length_drop, List.length_take];rfl)) ?_;(with_reducible refine (permgroup_Contains.calls kj127 a0_0 _ _ l0_1 _ _ l2 t393 t394 _ ?side1 ?side2 ?side3 ?side4 A135.out).mono ?_);(case side1 => repeat (first|exact (Kd.C_below HR0_1.out HB.out) | (with_reducible refine Kd.C_alloc ?_ _) | (with_reducible refine Kd.C_drewN ?_ _) | (with_reducible refine Kd.C_drew ?_)));(case side2 => exact HC0_1.out);(case side3 => repeat (first|exact (Kd.C_below HR2.out HB.out) | (with_reducible refine Kd.C_alloc ?_ _) | (with_reducible refine Kd.C_drewN ?_ _) | (with_reducible refine Kd.C_drew ?_)));(case side4 => exact HC2.out);rintro e w159 ⟨rfl, hb⟩;refine ⟨_, rfl, ?_⟩;have n0_ := Aside0.mk (Kd.S_below (by (with_reducible repeat (first|apply Kd.S_alloc | apply Kd.S_drewN | apply Kd.S_drew));exact HO_369001.out) hb);have n1_ := Aside0.mk (Kd.S_below (by (with_reducible repeat (first|apply Kd.S_alloc | apply Kd.S_drewN | apply Kd.S_drew));exact HO_390001.out) hb);have n2_ := Aside0.mk (blk_below (g := gb356) (o := .cells #[.int .i64 a0_0, .slice A0_1 l0_1.length c0_1] 24 (0, 0)) (by (with_reducible repeat (first|refine blk_drewN ?_ _ | refine blk_drew ?_ | refine blk_alloc ?_ _));exact BK356.out) hb);have n3_ := Aside0.mk (blk_below (g := gb368) (o := .cells #[.int .i64 t363, .slice Ao68 t364.length co68] 24 (0, 0)) (by (with_reducible repeat (first|refine blk_drewN ?_ _ | refine blk_drew ?_ | refine blk_alloc ?_ _));exact BK368.out) hb);have n4_ := Aside0.mk (blk_below (g := gb389) (o := .cells #[.int .i64 t384, .slice Ao115 t385.length co115] 24 (0, 0)) (by (with_reducible repeat (first|refine blk_drewN ?_ _ | refine blk_drew ?_ | refine blk_alloc ?_ _));exact BK389.out) hb);have n5_ := Aside0.mk (below_step (by repeat (first|(with_reducible first | exact HB.out | apply below_alloc | apply pw_below_drewN | apply below_drew1 | refine below_set ?_ GE356.out | refine below_set ?_ GE368.out | refine below_set ?_ GE389.out) | exact HB.out)) hb);clear HO_369001;clear HO_390001;clear BK356;clear BK368;clear BK389;clear HB;have HO_369001 := n0_;have HO_390001 := n1_;have BK356 := n2_;have BK368 := n3_;have BK389 := n4_;have HB := n5_;clear n0_ n1_ n2_ n3_ n4_ n5_;(try clear hb);(try clear hb2);(try clear hk);(try clear hi)))
                   have n0_ := Aside0.mk (Kd.S_drew HO_369001.out)
                   have n1_ := Aside0.mk (Kd.S_drew HO_390001.out)
                   have n2_ := Aside0.mk (blk_drew BK356.out)
                   have n3_ := Aside0.mk (blk_drew BK368.out)
                   have n4_ := Aside0.mk (blk_drew BK389.out)
                   have n5_ := Aside0.mk (below_drew1 HB.out)
                   clear HO_369001 HO_390001 BK356 BK368 BK389 HB
                   have HO_369001 := n0_
                   have HO_390001 := n1_
                   have BK356 := n2_
                   have BK368 := n3_
                   have BK389 := n4_
                   have HB := n5_
                   clear n0_ n1_ n2_ n3_ n4_ n5_
                   refine start_ (n := 10) (S := fun w' => w'.cell? ⟨gb368, 0, none⟩ = some (.int .i64 t363) ∧ w'.cell? ⟨gb368, 1, none⟩ = some (.slice Ao68 t364.length co68)) (ds := []) #[false, false, false, false, false, false, false, false, false, false] (by kernel_rfl) rfl rfl ⟨(blk_cell BK368.out 0).trans rfl, (blk_cell BK368.out 1).trans rfl⟩ (fun hHeld => ?_);refine with_tabW galoislaw23_PermgroupConjugates.tab23 galoislaw23_PermgroupConjugates.bits23 (fun HT_ HW_ => ?_)
                   generalize w159.drew = w160 at HO_369001 HO_390001 BK356 BK368 BK389 HB hHeld ⊢
                   refine pure_ (i := 1) (N := some 180) (v := ?_) (a' := ?_) #[false, true, false, false, false, false, false, false, false, false] rfl rfl (any_of HT_.out (by kernel_rfl)) (fun _ _ _ h => h) (Or.inl ⟨by rfl, ?_⟩) ?_ ?_
                   rotate_left
                   ·intro w'
                    go_simp
                    with_reducible rfl
                   rotate_left
                   ·simp only [Act.put, List.setIfInBounds_toArray, List.set_cons_zero, List.set_cons_succ, i64_w, i32_w]
                    rfl
                   refine pure_ (i := 2) (N := some 181) (v := ?_) (a' := ?_) #[false, true, true, false, false, false, false, false, false, false] rfl rfl (any_of HT_.out (by kernel_rfl)) (fun _ _ _ h => h) (Or.inl ⟨by rfl, ?_⟩) ?_ ?_
                   rotate_left
                   ·intro w'
                    go_simp
                    with_reducible rfl
                   rotate_left
                   ·simp only [Act.put, List.setIfInBounds_toArray, List.set_cons_zero, List.set_cons_succ, i64_w, i32_w]
                    rfl
                   refine take_ (i := 0) (N := some 179) (v := ?_) (a' := ?_) #[true, true, true, false, false, false, false, false, false, false] rfl rfl (take_ofW HT_.out HW_.out (by kernel_rfl)) (fun _ _ _ h => h) (Or.inl ⟨by rfl, ?_⟩) hHeld ?_ ?_
                   rotate_left
                   ·rintro w' ⟨s0, s1⟩
                    go_simp
                    with_reducible rfl
                   rotate_left
                   ·simp only [Act.put, List.setIfInBounds_toArray, List.set_cons_zero, List.set_cons_succ, i64_w, i32_w]
                    rfl
                   refine one_ (i := 3) (N := some 182) #[true, true, true, true, false, false, false, false, false, false] rfl rfl (one_of HT_.out (by kernel_rfl)) (by decide) (fun K hK => ?_)
                   refine goes_ Try.func33 (by kernel_rfl) rfl #[.slice A2 l2.length c2, .slice A1 l1.length c1] (by rfl) rfl rfl (by (try simp only [List.map_toArray, List.map_cons, List.map_nil]);first | done | rfl | (simp only [List.length_drop, List.length_take];rfl)) ?_
                   with_reducible refine (galoisref22_Conjugate.calls kj127 _ _ l2 _ _ l1 t395 _ ?side1 ?side2 ?side3 ?side4 A136.out).mono ?_
                   (case side1 => repeat (first|exact (Kd.C_below HR2.out HB.out) | (with_reducible refine Kd.C_alloc ?_ _) | (with_reducible refine Kd.C_drewN ?_ _) | (with_reducible refine Kd.C_drew ?_)))
                   (case side2 => exact HC2.out)
                   (case side3 => repeat (first|exact (Kd.C_below HR1.out HB.out) | (with_reducible refine Kd.C_alloc ?_ _) | (with_reducible refine Kd.C_drewN ?_ _) | (with_reducible refine Kd.C_drew ?_)))
                   (case side4 => exact HC1.out)
                   rintro e w161 ⟨v396, rfl, ho0, hb⟩
                   refine ⟨_, rfl, ?_⟩
                   have n0_ := Aside0.mk (Kd.S_elder' (by (with_reducible repeat (first|apply Kd.S_alloc | apply Kd.S_drewN | apply Kd.S_drew));exact HO_369001.out) (Kd.R_base ho0) hb)
                   have n1_ := Aside0.mk (Kd.S_elder' (by (with_reducible repeat (first|apply Kd.S_alloc | apply Kd.S_drewN | apply Kd.S_drew));exact HO_390001.out) (Kd.R_base ho0) hb)
                   have n2_ := Aside0.mk (Kd.R_lower ho0 (below_size (by repeat (first|(with_reducible first | exact HB.out | apply below_alloc | apply pw_below_drewN | apply below_drew1 | refine below_set ?_ GE356.out | refine below_set ?_ GE368.out | refine below_set ?_ GE389.out) | exact HB.out))))
                   have n3_ := Aside0.mk (blk_below (g := gb356) (o := .cells #[.int .i64 a0_0, .slice A0_1 l0_1.length c0_1] 24 (0, 0)) (by (with_reducible repeat (first|refine blk_drewN ?_ _ | refine blk_drew ?_ | refine blk_alloc ?_ _));exact BK356.out) hb)
                   have n4_ := Aside0.mk (blk_below (g := gb368) (o := .cells #[.int .i64 t363, .slice Ao68 t364.length co68] 24 (0, 0)) (by (with_reducible repeat (first|refine blk_drewN ?_ _ | refine blk_drew ?_ | refine blk_alloc ?_ _));exact BK368.out) hb)
                   have n5_ := Aside0.mk (blk_below (g := gb389) (o := .cells #[.int .i64 t384, .slice Ao115 t385.length co115] 24 (0, 0)) (by (with_reducible repeat (first|refine blk_drewN ?_ _ | refine blk_drew ?_ | refine blk_alloc ?_ _));exact BK389.out) hb)
                   have n6_ := Aside0.mk (below_step (by repeat (first|(with_reducible first | exact HB.out | apply below_alloc | apply pw_below_drewN | apply below_drew1 | refine below_set ?_ GE356.out | refine below_set ?_ GE368.out | refine below_set ?_ GE389.out) | exact HB.out)) hb)
                   clear HO_369001 HO_390001 BK356 BK368 BK389 HB
                   have HO_369001 := n0_
                   have HO_390001 := n1_
                   have HO397 := n2_
                   have BK356 := n3_
                   have BK368 := n4_
                   have BK389 := n5_
                   have HB := n6_
                   clear n0_ n1_ n2_ n3_ n4_ n5_ n6_
                   (try clear hb)
                   (try clear hb2)
                   (try clear hk)
                   (try clear hi)
                   (try clear ho0)
                   obtain ⟨Ao162, co162, eo162⟩ := Kd.R_slice HO397.out
                   (first|subst eo162 | (injection eo162 with f1_ f2_ f3_;have f4_ := f1_.symm;have f5_ := f3_.symm;clear f1_ f2_ f3_;subst f4_;subst f5_))
                   refine hK.out _ _ ⟨(blk_cell BK368.out 0).trans rfl, (blk_cell BK368.out 1).trans rfl⟩ (fun hHeld => ?_)
                   clear hK K
                   refine norm_ (a' := ?_) ?_ ?_
                   rotate_left
                   ·show Act.put _ (some 182) _ = _
                    simp only [Act.put, List.setIfInBounds_toArray, List.set_cons_zero, List.set_cons_succ, i64_w, i32_w]
                    rfl
                   refine one_ (i := 4) (N := some 183) #[true, true, true, true, true, false, false, false, false, false] rfl rfl (one_of HT_.out (by kernel_rfl)) (by decide) (fun K hK => ?_)
                   refine goes_ Try.func24 (by kernel_rfl) rfl #[.agg #[.int .i64 t363, .slice Ao68 t364.length co68], .slice Ao162 t395.length co162] (by rfl) rfl rfl (by (try simp only [List.map_toArray, List.map_cons, List.map_nil]);first | done | rfl | (simp only [List.length_drop, List.length_take];rfl)) ?_
                   with_reducible refine (permgroup_Contains.calls kj127 t363 _ _ t364 _ _ t395 t398 t399 _ ?side1 ?side2 ?side3 ?side4 A137.out).mono ?_
                   (case side1 => repeat (first|exact (Kd.S_reads' HO_369001.out).2.2 | (with_reducible refine Kd.C_alloc ?_ _) | (with_reducible refine Kd.C_drewN ?_ _) | (with_reducible refine Kd.C_drew ?_)))
                   (case side2 => exact (Kd.S_reads' HO_369001.out).2.1)
                   (case side3 => repeat (first|exact (Kd.R_reads' HO397.out).2.2 | (with_reducible refine Kd.C_alloc ?_ _) | (with_reducible refine Kd.C_drewN ?_ _) | (with_reducible refine Kd.C_drew ?_)))
                   (case side4 => exact (Kd.R_reads' HO397.out).2.1)
                   rintro e w163 ⟨rfl, hb⟩
                   refine ⟨_, rfl, ?_⟩
                   have n0_ := Aside0.mk (Kd.S_below (by (with_reducible repeat (first|apply Kd.S_alloc | apply Kd.S_drewN | apply Kd.S_drew));exact HO_369001.out) hb)
                   have n1_ := Aside0.mk (Kd.S_below (by (with_reducible repeat (first|apply Kd.S_alloc | apply Kd.S_drewN | apply Kd.S_drew));exact HO_390001.out) hb)
                   have n2_ := Aside0.mk (Kd.R_below (by (with_reducible repeat (first|apply Kd.R_alloc | apply Kd.R_drewN | apply Kd.R_drew));exact HO397.out) hb)
                   have n3_ := Aside0.mk (blk_below (g := gb356) (o := .cells #[.int .i64 a0_0, .slice A0_1 l0_1.length c0_1] 24 (0, 0)) (by (with_reducible repeat (first|refine blk_drewN ?_ _ | refine blk_drew ?_ | refine blk_alloc ?_ _));exact BK356.out) hb)
                   have n4_ := Aside0.mk (blk_below (g := gb368) (o := .cells #[.int .i64 t363, .slice Ao68 t364.length co68] 24 (0, 0)) (by (with_reducible repeat (first|refine blk_drewN ?_ _ | refine blk_drew ?_ | refine blk_alloc ?_ _));exact BK368.out) hb)
                   have n5_ := Aside0.mk (blk_below (g := gb389) (o := .cells #[.int .i64 t384, .slice Ao115 t385.length co115] 24 (0, 0)) (by (with_reducible repeat (first|refine blk_drewN ?_ _ | refine blk_drew ?_ | refine blk_alloc ?_ _));exact BK389.out) hb)
                   have n6_ := Aside0.mk (below_step (by repeat (first|(with_reducible first | exact HB.out | apply below_alloc | apply pw_below_drewN | apply below_drew1 | refine below_set ?_ GE356.out | refine below_set ?_ GE368.out | refine below_set ?_ GE389.out) | exact HB.out)) hb)
                   clear HO_369001 HO_390001 HO397 BK356 BK368 BK389 HB
                   have HO_369001 := n0_
                   have HO_390001 := n1_
                   have HO397 := n2_
                   have BK356 := n3_
                   have BK368 := n4_
                   have BK389 := n5_
                   have HB := n6_
                   clear n0_ n1_ n2_ n3_ n4_ n5_ n6_
                   (try clear hb)
                   (try clear hb2)
                   (try clear hk)
                   (try clear hi)
                   refine hK.out _ _ ⟨(blk_cell BK368.out 0).trans rfl, (blk_cell BK368.out 1).trans rfl⟩ (fun hHeld => ?_)
                   clear hK K
                   refine norm_ (a' := ?_) ?_ ?_
                   rotate_left
                   ·show Act.put _ (some 183) _ = _
                    simp only [Act.put, List.setIfInBounds_toArray, List.set_cons_zero, List.set_cons_succ, i64_w, i32_w]
                    rfl
                   refine pure_ (i := 5) (N := some 178) (v := ?_) (a' := ?_) #[true, true, true, true, true, true, false, false, false, false] rfl rfl (any_of HT_.out (by kernel_rfl)) (fun _ _ _ h => h) (Or.inl ⟨by rfl, ?_⟩) ?_ ?_
                   rotate_left
                   ·intro w'
                    go_simp
                    with_reducible rfl
                   rotate_left
                   ·simp only [Act.put, List.setIfInBounds_toArray, List.set_cons_zero, List.set_cons_succ, i64_w, i32_w]
                    rfl
                   refine pure_ (i := 6) (N := some 184) (v := ?_) (a' := ?_) #[true, true, true, true, true, true, true, false, false, false] rfl rfl (any_of HT_.out (by kernel_rfl)) (fun _ _ _ h => h) (Or.inl ⟨by rfl, ?_⟩) ?_ ?_
                   rotate_left
                   ·intro w'
                    go_simp
                    with_reducible rfl
                   rotate_left
                   ·simp only [Act.put, List.setIfInBounds_toArray, List.set_cons_zero, List.set_cons_succ, i64_w, i32_w]
                    rfl
                   refine pure_ (i := 7) (N := some 185) (v := ?_) (a' := ?_) #[true, true, true, true, true, true, true, true, false, false] rfl rfl (any_of HT_.out (by kernel_rfl)) (fun _ _ _ h => h) (Or.inl ⟨by rfl, ?_⟩) ?_ ?_
                   rotate_left
                   ·intro w'
                    go_simp
                    with_reducible rfl
                   rotate_left
                   ·simp only [Act.put, List.setIfInBounds_toArray, List.set_cons_zero, List.set_cons_succ, i64_w, i32_w]
                    rfl
                   refine pure_ (i := 8) (N := some 19) (v := ?_) (a' := ?_) #[true, true, true, true, true, true, true, true, true, false] rfl rfl (any_of HT_.out (by kernel_rfl)) (fun _ _ _ h => h) (Or.inl ⟨by rfl, ?_⟩) ?_ ?_
                   rotate_left
                   ·intro w'
                    go_simp
                    with_reducible rfl
                   rotate_left
                   ·simp only [Act.put, List.setIfInBounds_toArray, List.set_cons_zero, List.set_cons_succ, i64_w, i32_w]
                    rfl
                   refine pure_ (i := 9) (N := some 13) (v := ?_) (a' := ?_) #[true, true, true, true, true, true, true, true, true, true] rfl rfl (any_of HT_.out (by kernel_rfl)) (fun _ _ _ h => h) (Or.inl ⟨by rfl, ?_⟩) ?_ ?_
                   rotate_left
                   ·intro w'
                    go_simp
                    with_reducible rfl
                   rotate_left
                   ·simp only [Act.put, List.setIfInBounds_toArray, List.set_cons_zero, List.set_cons_succ, i64_w, i32_w]
                    rfl
                   refine done_ (done_of HT_.out (by kernel_rfl)) ?_
                   try go_wp2
                   go_ret
                   exact ⟨by first | rfl | (simp [errW_none, errW_some] <;> rfl) | (simp [*, errW_none, errW_some] <;> rfl), by repeat (first|(with_reducible first | exact HB.out | apply below_alloc | apply pw_below_drewN | apply below_drew1 | refine below_set ?_ GE356.out | refine below_set ?_ GE368.out | refine below_set ?_ GE389.out) | exact HB.out)⟩
    ·rw [if_neg c61] at H
     have c61b0 : (t369 == 0) = false := beq_eq_false_iff_ne.mpr c61
     have c61b1 : (t369 != 0) = true := bne_iff_ne.mpr c61
     replace H := Option.bind_eq_some_iff.mp H
     obtain ⟨t370, A1640, H⟩ := H
     replace H : (if t370 = true then (some (t367 == t369)) else (some false)) = some r := H
     have A164 := Aside0.mk A1640
     clear A1640
     by_cases c165 : t370 = true
     ·subst c165
      have H1 : (some (t367 == t369)) = some r := by rw [if_pos rfl] at H;exact H
      clear H
      have H := H1
      clear H1
      obtain rfl := Option.some.inj H
      have hcz166_0 : wc.cell? ⟨gb356, 0, none⟩ = some (.int .i64 a0_0) := (blk_cell BK356.out 0).trans rfl
      have hcz166_1 : wc.cell? ⟨gb356, 1, none⟩ = some (.slice A0_1 l0_1.length c0_1) := (blk_cell BK356.out 1).trans rfl
      have hfz166_0 := blk_frozen BK356.out 0
      have hfz166_1 := blk_frozen BK356.out 1
      as_aux_lemma =>
       go_wp2_with (first|((with_reducible refine gate_callee (f := 32) rfl ?_);refine goesL_ (some 62) rfl rfl Try.func32 (by kernel_rfl) rfl #[.agg #[.int .i64 a0_0, .slice A0_1 l0_1.length c0_1], .slice A1 l1.length c1] rfl (by (try simp only [List.map_toArray, List.map_cons, List.map_nil]);first | done | rfl | (simp only [List.length_drop, List.length_take];rfl)) ?_;(with_reducible refine (permgroup_Conjugate.calls kj3 a0_0 _ _ l0_1 _ _ l1 t363 t364 t367 _ ?side1 ?side2 ?side3 ?side4 A59.out).mono ?_);(case side1 => repeat (first|exact (Kd.C_below HR0_1.out HB.out) | (with_reducible refine Kd.C_alloc ?_ _) | (with_reducible refine Kd.C_drewN ?_ _) | (with_reducible refine Kd.C_drew ?_)));(case side2 => exact HC0_1.out);(case side3 => repeat (first|exact (Kd.C_below HR1.out HB.out) | (with_reducible refine Kd.C_alloc ?_ _) | (with_reducible refine Kd.C_drewN ?_ _) | (with_reducible refine Kd.C_drew ?_)));(case side4 => exact HC1.out);rintro e w167 ⟨v365, rfl, ho0, hb⟩;refine ⟨_, rfl, ?_⟩;have n0_ := Aside0.mk (Kd.S_lower ho0 (below_size (by repeat (first|(with_reducible first | exact HB.out | apply below_alloc | apply pw_below_drewN | apply below_drew1 | refine below_set ?_ GE356.out) | exact HB.out))));have n1_ := Aside0.mk (blk_below (g := gb356) (o := .cells #[.int .i64 a0_0, .slice A0_1 l0_1.length c0_1] 24 (0, 0)) (by (with_reducible repeat (first|refine blk_drewN ?_ _ | refine blk_drew ?_ | refine blk_alloc ?_ _));exact BK356.out) hb);have n2_ := Aside0.mk (below_step (by repeat (first|(with_reducible first | exact HB.out | apply below_alloc | apply pw_below_drewN | apply below_drew1 | refine below_set ?_ GE356.out) | exact HB.out)) hb);clear BK356;clear HB;have HO366 := n0_;have BK356 := n1_;have HB := n2_;clear n0_ n1_ n2_;(try clear hb);(try clear hb2);(try clear hk);(try clear hi);(try clear ho0)) | ((with_reducible refine gate_dst (N := 7) rfl ?_);(try (refine gate_guard (by rfl) ?_;dsimp only));refine box_event ?hg (N := 7) ?hd (cs := #[.int .i64 0, .slice none 0 0]) (t := 24) ?hr ?_;(case hd => rfl);(case hg => rfl);(case hr => first | (go_simp;done) | (go_simp;rfl));intro gb368 hg w168 hbox hb;have n0_ := Aside0.mk (Kd.S_below (by (with_reducible repeat (first|apply Kd.S_alloc | apply Kd.S_drewN | apply Kd.S_drew));exact HO366.out) hb);have n1_ := Aside0.mk (blk_below (g := gb356) (o := .cells #[.int .i64 a0_0, .slice A0_1 l0_1.length c0_1] 24 (0, 0)) (by (with_reducible repeat (first|refine blk_drewN ?_ _ | refine blk_drew ?_ | refine blk_alloc ?_ _));exact BK356.out) hb);have n2_ := Aside0.mk (below_step (by repeat (first|(with_reducible first | exact HB.out | apply below_alloc | apply pw_below_drewN | apply below_drew1 | refine below_set ?_ GE356.out) | exact HB.out)) hb);have n3_ := Aside0.mk (hbox);have n4_ := Aside0.mk ((by rw [hg];exact (below_size (by repeat (first|(with_reducible first | exact HB.out | apply below_alloc | apply pw_below_drewN | apply below_drew1 | refine below_set ?_ GE356.out) | exact HB.out))) : w.heap.size ≤ gb368));have n5_ := Aside0.mk ((by rw [hg];exact (below_size (by repeat (first|(with_reducible first | exact HB.out | apply below_alloc | apply pw_below_drewN | apply below_drew1 | refine below_set ?_ GE356.out) | exact HB.out))) : w.heap.size ≤ gb368));have n6_ := Aside0.mk ((by rw [hg];exact Nat.ne_of_lt (blk_lt (g := gb356) (o := .cells #[.int .i64 a0_0, .slice A0_1 l0_1.length c0_1] 24 (0, 0)) (by (with_reducible repeat (first|refine blk_drewN ?_ _ | refine blk_drew ?_ | refine blk_alloc ?_ _));exact BK356.out)) : gb356 ≠ gb368));have n7_ := Aside0.mk ((by rw [hg];exact Nat.ne_of_gt (blk_lt (g := gb356) (o := .cells #[.int .i64 a0_0, .slice A0_1 l0_1.length c0_1] 24 (0, 0)) (by (with_reducible repeat (first|refine blk_drewN ?_ _ | refine blk_drew ?_ | refine blk_alloc ?_ _));exact BK356.out)) : gb368 ≠ gb356));clear HO366;clear BK356;clear HB;have HO366 := n0_;have BK356 := n1_;have HB := n2_;have BK368 := n3_;have GW368 := n4_;have GE368 := n5_;have NB356_368 := n6_;have NB368_356 := n7_;clear n0_ n1_ n2_ n3_ n4_ n5_ n6_ n7_;clear hb hbox hg;have hnb169 := NB368_356.out;have hnc169 := NB356_368.out;have hcz170_0 : w168.cell? ⟨gb368, 0, none⟩ = some (.int .i64 0) := (blk_cell BK368.out 0).trans rfl;have hcz170_1 : w168.cell? ⟨gb368, 1, none⟩ = some (.slice none 0 0) := (blk_cell BK368.out 1).trans rfl;have hfz170_0 := blk_frozen BK368.out 0;have hfz170_1 := blk_frozen BK368.out 1;obtain ⟨Ao171, co171, eo171⟩ := Kd.S_slice HO366.out;subst eo171;have hcz172_0 : w168.cell? ⟨gb356, 0, none⟩ = some (.int .i64 a0_0) := (blk_cell BK356.out 0).trans rfl;have hcz172_1 : w168.cell? ⟨gb356, 1, none⟩ = some (.slice A0_1 l0_1.length c0_1) := (blk_cell BK356.out 1).trans rfl;have hfz172_0 := blk_frozen BK356.out 0;have hfz172_1 := blk_frozen BK356.out 1) | ((with_reducible refine gate_callee (f := 28) rfl ?_);refine goesL_ (some 67) rfl rfl Try.func28 (by kernel_rfl) rfl #[.agg #[.int .i64 a0_0, .slice A0_1 l0_1.length c0_1], .slice A1 l1.length c1] rfl (by (try simp only [List.map_toArray, List.map_cons, List.map_nil]);first | done | rfl | (simp only [List.length_drop, List.length_take];rfl)) ?_;(with_reducible refine (galoisref23_With.calls kj3 a0_0 _ _ l0_1 _ _ l1 t369 _ ?side1 ?side2 ?side3 ?side4 A60.out).mono ?_);(case side1 => exact Kd.C_below HR0_1.out (by repeat (first|(with_reducible first | exact HB.out | apply below_alloc | apply pw_below_drewN | apply below_drew1 | refine below_set ?_ GE356.out | refine below_set ?_ GE368.out) | exact HB.out)));(case side2 => exact HC0_1.out);(case side3 => exact Kd.C_below HR1.out (by repeat (first|(with_reducible first | exact HB.out | apply below_alloc | apply pw_below_drewN | apply below_drew1 | refine below_set ?_ GE356.out | refine below_set ?_ GE368.out) | exact HB.out)));(case side4 => exact HC1.out);rintro e w173 ⟨rfl, hb⟩;refine ⟨_, rfl, ?_⟩;have n0_ := Aside0.mk (Kd.S_below (by (with_reducible repeat (first|apply Kd.S_alloc | apply Kd.S_drewN | apply Kd.S_drew));exact (Kd.S_mono (Kd.S_far (p := ⟨gb368, 1, none⟩) (Kd.S_far (p := ⟨gb368, 0, none⟩) (Kd.S_types HO366.out BK368.out (by decide)) (fun _ hk => hk.2) (.int .i64 t363)) (fun _ hk => hk.2) (.slice Ao171 t364.length co171)) (fun _ h_ => h_.1))) hb);have n1_ := Aside0.mk (blk_below (g := gb356) (o := .cells #[.int .i64 a0_0, .slice A0_1 l0_1.length c0_1] 24 (0, 0)) (by (with_reducible repeat (first|refine blk_drewN ?_ _ | refine blk_drew ?_ | refine blk_alloc ?_ _));refine blk_far ?_ NB356_368.out _;(with_reducible repeat (first|refine blk_drewN ?_ _ | refine blk_drew ?_ | refine blk_alloc ?_ _));refine blk_far ?_ NB356_368.out _;(with_reducible repeat (first|refine blk_drewN ?_ _ | refine blk_drew ?_ | refine blk_alloc ?_ _));exact BK356.out) hb);have n2_ := Aside0.mk (blk_below (g := gb368) (o := .cells #[.int .i64 t363, .slice Ao171 t364.length co171] 24 (0, 0)) (by (with_reducible repeat (first|refine blk_drewN ?_ _ | refine blk_drew ?_ | refine blk_alloc ?_ _));refine blk_put (cs := #[.int .i64 t363, .slice none 0 0]) ?_ 1 _ rfl;(with_reducible repeat (first|refine blk_drewN ?_ _ | refine blk_drew ?_ | refine blk_alloc ?_ _));refine blk_put (cs := #[.int .i64 0, .slice none 0 0]) ?_ 0 _ rfl;(with_reducible repeat (first|refine blk_drewN ?_ _ | refine blk_drew ?_ | refine blk_alloc ?_ _));exact BK368.out) hb);have n3_ := Aside0.mk (below_step (by repeat (first|(with_reducible first | exact HB.out | apply below_alloc | apply pw_below_drewN | apply below_drew1 | refine below_set ?_ GE356.out | refine below_set ?_ GE368.out) | exact HB.out)) hb);clear HO366;clear BK356;clear BK368;clear HB;have HO366 := n0_;have BK356 := n1_;have BK368 := n2_;have HB := n3_;clear n0_ n1_ n2_ n3_;(try clear hb);(try clear hb2);(try clear hk);(try clear hi);have hcz174_0 : w173.cell? ⟨gb368, 0, none⟩ = some (.int .i64 t363) := (blk_cell BK368.out 0).trans rfl;have hcz174_1 : w173.cell? ⟨gb368, 1, none⟩ = some (.slice Ao171 t364.length co171) := (blk_cell BK368.out 1).trans rfl;have hfz174_0 := blk_frozen BK368.out 0;have hfz174_1 := blk_frozen BK368.out 1) | ((with_reducible refine gate_callee (f := 17) rfl ?_);refine goesL_ (some 71) rfl rfl Try.func17 (by kernel_rfl) rfl #[.agg #[.int .i64 t363, .slice Ao171 t364.length co171]] rfl (by (try simp only [List.map_toArray, List.map_cons, List.map_nil]);first | done | rfl | (simp only [List.length_drop, List.length_take];rfl)) ?_;(with_reducible refine (galoislaw23_none.calls t363 _ _ t364 true _ ?side1 ?side2 A164.out).mono ?_);(case side1 => repeat (first|exact (Kd.S_reads' HO366.out).2.2 | (with_reducible refine Kd.C_alloc ?_ _) | (with_reducible refine Kd.C_drewN ?_ _) | (with_reducible refine Kd.C_drew ?_)));(case side2 => exact (Kd.S_reads' HO366.out).2.1);rintro e w175 ⟨rfl, hb⟩;refine ⟨_, rfl, ?_⟩;have n0_ := Aside0.mk (Kd.S_below (by (with_reducible repeat (first|apply Kd.S_alloc | apply Kd.S_drewN | apply Kd.S_drew));exact HO366.out) hb);have n1_ := Aside0.mk (blk_below (g := gb356) (o := .cells #[.int .i64 a0_0, .slice A0_1 l0_1.length c0_1] 24 (0, 0)) (by (with_reducible repeat (first|refine blk_drewN ?_ _ | refine blk_drew ?_ | refine blk_alloc ?_ _));exact BK356.out) hb);have n2_ := Aside0.mk (blk_below (g := gb368) (o := .cells #[.int .i64 t363, .slice Ao171 t364.length co171] 24 (0, 0)) (by (with_reducible repeat (first|refine blk_drewN ?_ _ | refine blk_drew ?_ | refine blk_alloc ?_ _));exact BK368.out) hb);have n3_ := Aside0.mk (below_step (by repeat (first|(with_reducible first | exact HB.out | apply below_alloc | apply pw_below_drewN | apply below_drew1 | refine below_set ?_ GE356.out | refine below_set ?_ GE368.out) | exact HB.out)) hb);clear HO366;clear BK356;clear BK368;clear HB;have HO366 := n0_;have BK356 := n1_;have BK368 := n2_;have HB := n3_;clear n0_ n1_ n2_ n3_;(try clear hb);(try clear hb2);(try clear hk);(try clear hi)))
       go_ret
       exact ⟨by first | rfl | (simp [errW_none, errW_some] <;> rfl) | (simp [*, errW_none, errW_some] <;> rfl), by repeat (first|(with_reducible first | exact HB.out | apply below_alloc | apply pw_below_drewN | apply below_drew1 | refine below_set ?_ GE356.out | refine below_set ?_ GE368.out) | exact HB.out)⟩
     ·replace c165 := Bool.eq_false_iff.mpr c165
      subst c165
      have H1 : (some false) = some r := by rw [if_neg (show ¬ (false = true) by decide)] at H;exact H
      clear H
      have H := H1
      clear H1
      obtain rfl := Option.some.inj H
      have hcz176_0 : wc.cell? ⟨gb356, 0, none⟩ = some (.int .i64 a0_0) := (blk_cell BK356.out 0).trans rfl
      have hcz176_1 : wc.cell? ⟨gb356, 1, none⟩ = some (.slice A0_1 l0_1.length c0_1) := (blk_cell BK356.out 1).trans rfl
      have hfz176_0 := blk_frozen BK356.out 0
      have hfz176_1 := blk_frozen BK356.out 1
      as_aux_lemma =>
       go_wp2_with (first|((with_reducible refine gate_callee (f := 32) rfl ?_);refine goesL_ (some 62) rfl rfl Try.func32 (by kernel_rfl) rfl #[.agg #[.int .i64 a0_0, .slice A0_1 l0_1.length c0_1], .slice A1 l1.length c1] rfl (by (try simp only [List.map_toArray, List.map_cons, List.map_nil]);first | done | rfl | (simp only [List.length_drop, List.length_take];rfl)) ?_;(with_reducible refine (permgroup_Conjugate.calls kj3 a0_0 _ _ l0_1 _ _ l1 t363 t364 t367 _ ?side1 ?side2 ?side3 ?side4 A59.out).mono ?_);(case side1 => repeat (first|exact (Kd.C_below HR0_1.out HB.out) | (with_reducible refine Kd.C_alloc ?_ _) | (with_reducible refine Kd.C_drewN ?_ _) | (with_reducible refine Kd.C_drew ?_)));(case side2 => exact HC0_1.out);(case side3 => repeat (first|exact (Kd.C_below HR1.out HB.out) | (with_reducible refine Kd.C_alloc ?_ _) | (with_reducible refine Kd.C_drewN ?_ _) | (with_reducible refine Kd.C_drew ?_)));(case side4 => exact HC1.out);rintro e w177 ⟨v365, rfl, ho0, hb⟩;refine ⟨_, rfl, ?_⟩;have n0_ := Aside0.mk (Kd.S_lower ho0 (below_size (by repeat (first|(with_reducible first | exact HB.out | apply below_alloc | apply pw_below_drewN | apply below_drew1 | refine below_set ?_ GE356.out) | exact HB.out))));have n1_ := Aside0.mk (blk_below (g := gb356) (o := .cells #[.int .i64 a0_0, .slice A0_1 l0_1.length c0_1] 24 (0, 0)) (by (with_reducible repeat (first|refine blk_drewN ?_ _ | refine blk_drew ?_ | refine blk_alloc ?_ _));exact BK356.out) hb);have n2_ := Aside0.mk (below_step (by repeat (first|(with_reducible first | exact HB.out | apply below_alloc | apply pw_below_drewN | apply below_drew1 | refine below_set ?_ GE356.out) | exact HB.out)) hb);clear BK356;clear HB;have HO366 := n0_;have BK356 := n1_;have HB := n2_;clear n0_ n1_ n2_;(try clear hb);(try clear hb2);(try clear hk);(try clear hi);(try clear ho0)) | ((with_reducible refine gate_dst (N := 7) rfl ?_);(try (refine gate_guard (by rfl) ?_;dsimp only));refine box_event ?hg (N := 7) ?hd (cs := #[.int .i64 0, .slice none 0 0]) (t := 24) ?hr ?_;(case hd => rfl);(case hg => rfl);(case hr => first | (go_simp;done) | (go_simp;rfl));intro gb368 hg w178 hbox hb;have n0_ := Aside0.mk (Kd.S_below (by (with_reducible repeat (first|apply Kd.S_alloc | apply Kd.S_drewN | apply Kd.S_drew));exact HO366.out) hb);have n1_ := Aside0.mk (blk_below (g := gb356) (o := .cells #[.int .i64 a0_0, .slice A0_1 l0_1.length c0_1] 24 (0, 0)) (by (with_reducible repeat (first|refine blk_drewN ?_ _ | refine blk_drew ?_ | refine blk_alloc ?_ _));exact BK356.out) hb);have n2_ := Aside0.mk (below_step (by repeat (first|(with_reducible first | exact HB.out | apply below_alloc | apply pw_below_drewN | apply below_drew1 | refine below_set ?_ GE356.out) | exact HB.out)) hb);have n3_ := Aside0.mk (hbox);have n4_ := Aside0.mk ((by rw [hg];exact (below_size (by repeat (first|(with_reducible first | exact HB.out | apply below_alloc | apply pw_below_drewN | apply below_drew1 | refine below_set ?_ GE356.out) | exact HB.out))) : w.heap.size ≤ gb368));have n5_ := Aside0.mk ((by rw [hg];exact (below_size (by repeat (first|(with_reducible first | exact HB.out | apply below_alloc | apply pw_below_drewN | apply below_drew1 | refine below_set ?_ GE356.out) | exact HB.out))) : w.heap.size ≤ gb368));have n6_ := Aside0.mk ((by rw [hg];exact Nat.ne_of_lt (blk_lt (g := gb356) (o := .cells #[.int .i64 a0_0, .slice A0_1 l0_1.length c0_1] 24 (0, 0)) (by (with_reducible repeat (first|refine blk_drewN ?_ _ | refine blk_drew ?_ | refine blk_alloc ?_ _));exact BK356.out)) : gb356 ≠ gb368));have n7_ := Aside0.mk ((by rw [hg];exact Nat.ne_of_gt (blk_lt (g := gb356) (o := .cells #[.int .i64 a0_0, .slice A0_1 l0_1.length c0_1] 24 (0, 0)) (by (with_reducible repeat (first|refine blk_drewN ?_ _ | refine blk_drew ?_ | refine blk_alloc ?_ _));exact BK356.out)) : gb368 ≠ gb356));clear HO366;clear BK356;clear HB;have HO366 := n0_;have BK356 := n1_;have HB := n2_;have BK368 := n3_;have GW368 := n4_;have GE368 := n5_;have NB356_368 := n6_;have NB368_356 := n7_;clear n0_ n1_ n2_ n3_ n4_ n5_ n6_ n7_;clear hb hbox hg;have hnb179 := NB368_356.out;have hnc179 := NB356_368.out;have hcz180_0 : w178.cell? ⟨gb368, 0, none⟩ = some (.int .i64 0) := (blk_cell BK368.out 0).trans rfl;have hcz180_1 : w178.cell? ⟨gb368, 1, none⟩ = some (.slice none 0 0) := (blk_cell BK368.out 1).trans rfl;have hfz180_0 := blk_frozen BK368.out 0;have hfz180_1 := blk_frozen BK368.out 1;obtain ⟨Ao181, co181, eo181⟩ := Kd.S_slice HO366.out;subst eo181;have hcz182_0 : w178.cell? ⟨gb356, 0, none⟩ = some (.int .i64 a0_0) := (blk_cell BK356.out 0).trans rfl;have hcz182_1 : w178.cell? ⟨gb356, 1, none⟩ = some (.slice A0_1 l0_1.length c0_1) := (blk_cell BK356.out 1).trans rfl;have hfz182_0 := blk_frozen BK356.out 0;have hfz182_1 := blk_frozen BK356.out 1) | ((with_reducible refine gate_callee (f := 28) rfl ?_);refine goesL_ (some 67) rfl rfl Try.func28 (by kernel_rfl) rfl #[.agg #[.int .i64 a0_0, .slice A0_1 l0_1.length c0_1], .slice A1 l1.length c1] rfl (by (try simp only [List.map_toArray, List.map_cons, List.map_nil]);first | done | rfl | (simp only [List.length_drop, List.length_take];rfl)) ?_;(with_reducible refine (galoisref23_With.calls kj3 a0_0 _ _ l0_1 _ _ l1 t369 _ ?side1 ?side2 ?side3 ?side4 A60.out).mono ?_);(case side1 => exact Kd.C_below HR0_1.out (by repeat (first|(with_reducible first | exact HB.out | apply below_alloc | apply pw_below_drewN | apply below_drew1 | refine below_set ?_ GE356.out | refine below_set ?_ GE368.out) | exact HB.out)));(case side2 => exact HC0_1.out);(case side3 => exact Kd.C_below HR1.out (by repeat (first|(with_reducible first | exact HB.out | apply below_alloc | apply pw_below_drewN | apply below_drew1 | refine below_set ?_ GE356.out | refine below_set ?_ GE368.out) | exact HB.out)));(case side4 => exact HC1.out);rintro e w183 ⟨rfl, hb⟩;refine ⟨_, rfl, ?_⟩;have n0_ := Aside0.mk (Kd.S_below (by (with_reducible repeat (first|apply Kd.S_alloc | apply Kd.S_drewN | apply Kd.S_drew));exact (Kd.S_mono (Kd.S_far (p := ⟨gb368, 1, none⟩) (Kd.S_far (p := ⟨gb368, 0, none⟩) (Kd.S_types HO366.out BK368.out (by decide)) (fun _ hk => hk.2) (.int .i64 t363)) (fun _ hk => hk.2) (.slice Ao181 t364.length co181)) (fun _ h_ => h_.1))) hb);have n1_ := Aside0.mk (blk_below (g := gb356) (o := .cells #[.int .i64 a0_0, .slice A0_1 l0_1.length c0_1] 24 (0, 0)) (by (with_reducible repeat (first|refine blk_drewN ?_ _ | refine blk_drew ?_ | refine blk_alloc ?_ _));refine blk_far ?_ NB356_368.out _;(with_reducible repeat (first|refine blk_drewN ?_ _ | refine blk_drew ?_ | refine blk_alloc ?_ _));refine blk_far ?_ NB356_368.out _;(with_reducible repeat (first|refine blk_drewN ?_ _ | refine blk_drew ?_ | refine blk_alloc ?_ _));exact BK356.out) hb);have n2_ := Aside0.mk (blk_below (g := gb368) (o := .cells #[.int .i64 t363, .slice Ao181 t364.length co181] 24 (0, 0)) (by (with_reducible repeat (first|refine blk_drewN ?_ _ | refine blk_drew ?_ | refine blk_alloc ?_ _));refine blk_put (cs := #[.int .i64 t363, .slice none 0 0]) ?_ 1 _ rfl;(with_reducible repeat (first|refine blk_drewN ?_ _ | refine blk_drew ?_ | refine blk_alloc ?_ _));refine blk_put (cs := #[.int .i64 0, .slice none 0 0]) ?_ 0 _ rfl;(with_reducible repeat (first|refine blk_drewN ?_ _ | refine blk_drew ?_ | refine blk_alloc ?_ _));exact BK368.out) hb);have n3_ := Aside0.mk (below_step (by repeat (first|(with_reducible first | exact HB.out | apply below_alloc | apply pw_below_drewN | apply below_drew1 | refine below_set ?_ GE356.out | refine below_set ?_ GE368.out) | exact HB.out)) hb);clear HO366;clear BK356;clear BK368;clear HB;have HO366 := n0_;have BK356 := n1_;have BK368 := n2_;have HB := n3_;clear n0_ n1_ n2_ n3_;(try clear hb);(try clear hb2);(try clear hk);(try clear hi);have hcz184_0 : w183.cell? ⟨gb368, 0, none⟩ = some (.int .i64 t363) := (blk_cell BK368.out 0).trans rfl;have hcz184_1 : w183.cell? ⟨gb368, 1, none⟩ = some (.slice Ao181 t364.length co181) := (blk_cell BK368.out 1).trans rfl;have hfz184_0 := blk_frozen BK368.out 0;have hfz184_1 := blk_frozen BK368.out 1) | ((with_reducible refine gate_callee (f := 17) rfl ?_);refine goesL_ (some 71) rfl rfl Try.func17 (by kernel_rfl) rfl #[.agg #[.int .i64 t363, .slice Ao181 t364.length co181]] rfl (by (try simp only [List.map_toArray, List.map_cons, List.map_nil]);first | done | rfl | (simp only [List.length_drop, List.length_take];rfl)) ?_;(with_reducible refine (galoislaw23_none.calls t363 _ _ t364 false _ ?side1 ?side2 A164.out).mono ?_);(case side1 => repeat (first|exact (Kd.S_reads' HO366.out).2.2 | (with_reducible refine Kd.C_alloc ?_ _) | (with_reducible refine Kd.C_drewN ?_ _) | (with_reducible refine Kd.C_drew ?_)));(case side2 => exact (Kd.S_reads' HO366.out).2.1);rintro e w185 ⟨rfl, hb⟩;refine ⟨_, rfl, ?_⟩;have n0_ := Aside0.mk (Kd.S_below (by (with_reducible repeat (first|apply Kd.S_alloc | apply Kd.S_drewN | apply Kd.S_drew));exact HO366.out) hb);have n1_ := Aside0.mk (blk_below (g := gb356) (o := .cells #[.int .i64 a0_0, .slice A0_1 l0_1.length c0_1] 24 (0, 0)) (by (with_reducible repeat (first|refine blk_drewN ?_ _ | refine blk_drew ?_ | refine blk_alloc ?_ _));exact BK356.out) hb);have n2_ := Aside0.mk (blk_below (g := gb368) (o := .cells #[.int .i64 t363, .slice Ao181 t364.length co181] 24 (0, 0)) (by (with_reducible repeat (first|refine blk_drewN ?_ _ | refine blk_drew ?_ | refine blk_alloc ?_ _));exact BK368.out) hb);have n3_ := Aside0.mk (below_step (by repeat (first|(with_reducible first | exact HB.out | apply below_alloc | apply pw_below_drewN | apply below_drew1 | refine below_set ?_ GE356.out | refine below_set ?_ GE368.out) | exact HB.out)) hb);clear HO366;clear BK356;clear BK368;clear HB;have HO366 := n0_;have BK356 := n1_;have BK368 := n2_;have HB := n3_;clear n0_ n1_ n2_ n3_;(try clear hb);(try clear hb2);(try clear hk);(try clear hi)))
       go_ret
       exact ⟨by first | rfl | (simp [errW_none, errW_some] <;> rfl) | (simp [*, errW_none, errW_some] <;> rfl), by repeat (first|(with_reducible first | exact HB.out | apply below_alloc | apply pw_below_drewN | apply below_drew1 | refine below_set ?_ GE356.out | refine below_set ?_ GE368.out) | exact HB.out)⟩
def galoislaw23_PermgroupConjugates.Pure : Prop := ∀ (a0_0 : Int) (l0_1 : List (List Int)) (l1 : List Int) (l2 : List Int), (Lit.int .i64 a0_0).wf = true → l0_1.length ≤ maxLen → (∀ x ∈ l0_1, (x.length ≤ maxLen ∧ ∀ y0 ∈ x, (Lit.int .i64 y0).wf = true)) → l1.length ≤ maxLen → (∀ x ∈ l1, (Lit.int .i64 x).wf = true) → l2.length ≤ maxLen → (∀ x ∈ l2, (Lit.int .i64 x).wf = true) → ∃ k, galoislaw23_PermgroupConjugates.f k a0_0 l0_1 l1 l2 = some true
theorem galoislaw23_PermgroupConjugates.walk (P : galoislaw23_PermgroupConjugates.Pure) (a0_0 : Int) (A0_1 : Option Addr) (c0_1 : Nat) (l0_1 : List (List Int)) (A1 : Option Addr) (c1 : Nat) (l1 : List Int) (A2 : Option Addr) (c2 : Nat) (l2 : List Int) (w : World) (w0_0 : (Lit.int .i64 a0_0).wf = true) (hr0_1 : Kd.C (Kd.slice 3 (Kd.int .i64)) w A0_1 l0_1.length l0_1) (hc0_1 : l0_1.length ≤ c0_1) (hm0_1 : l0_1.length ≤ maxLen) (hw0_1 : ∀ x ∈ l0_1, (x.length ≤ maxLen ∧ ∀ y0 ∈ x, (Lit.int .i64 y0).wf = true)) (hr1 : Kd.C (Kd.int .i64) w A1 l1.length l1) (hc1 : l1.length ≤ c1) (hm1 : l1.length ≤ maxLen) (hw1 : ∀ x ∈ l1, (Lit.int .i64 x).wf = true) (hr2 : Kd.C (Kd.int .i64) w A2 l2.length l2) (hc2 : l2.length ≤ c2) (hm2 : l2.length ≤ maxLen) (hw2 : ∀ x ∈ l2, (Lit.int .i64 x).wf = true) :
  Calls Try.prog 5 #[.agg #[.int .i64 a0_0, .slice A0_1 l0_1.length c0_1], .slice A1 l1.length c1, .slice A2 l2.length c2] w fun e w' => e = .returned (.bool true) ∧ Below w.heap.size w w' := by
 obtain ⟨k, h⟩ := P a0_0 l0_1 l1 l2 w0_0 hm0_1 hw0_1 hm1 hw1 hm2 hw2
 refine (galoislaw23_PermgroupConjugates.calls k a0_0 _ _ l0_1 _ _ l1 _ _ l2 true w hr0_1 hc0_1 hr1 hc1 hr2 hc2 h).mono ?_
 rintro e w' ⟨rfl, hd⟩
 exact ⟨rfl, hd⟩
end Go.Proofs.Ytimlnejchieimaa.PCj
