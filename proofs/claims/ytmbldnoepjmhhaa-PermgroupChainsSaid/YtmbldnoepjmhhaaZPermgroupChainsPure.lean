/- PermgroupChains: the levels of a chain (rising points, orbits in order, lifts that fix the points before), its order their product, a product of generators belongs to it, and the join with one element. -/
import Derived.Test.YtmbldnoepjmhhaaZPermgroupChainsPChx1
import Derived.Test.YtmbldnoepjmhhaaZPermgroupChainsMg0
namespace Go.Proofs.Ytmbldnoepjmhhaa.Pure
open Go.RowKit Go.Proofs.Ytmbldnoepjmhhaa.PCh Go.Proofs.YtmbldnoepjmhhaaW.PrintWords Go.Proofs.YtmbldnoepjmhhaaW.PrintLast Go.Proofs.Ytmbldnoepjmhhaa.Plain
set_option linter.unusedVariables false
set_option linter.unusedSimpArgs false
theorem u8_range {i : Int} (h : (Lit.int .u8 i).wf = true) : 0 ≤ i ∧ i ≤ 255 := by
  have hmx : (IntKind.max .u8) = 255 := rfl
  have hmn : (IntKind.min .u8) = 0 := rfl
  have h2 : IntKind.min .u8 ≤ i ∧ i ≤ 255 := by simpa [Lit.wf, hmx] using h
  rw [hmn] at h2
  exact h2
theorem PermgroupChains : galoislaw23_PermgroupChains.Pure := by
  intro a L l1 l2 _ _ _ _ h1 _ _
  exact ⟨0, if_pos (fun b hb => u8_range (h1 b hb))⟩
end Go.Proofs.Ytmbldnoepjmhhaa.Pure
