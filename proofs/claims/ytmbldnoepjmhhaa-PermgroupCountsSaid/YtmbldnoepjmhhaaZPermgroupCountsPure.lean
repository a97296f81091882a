/- PermgroupCounts: the element with an index has this index, elements with greater indices are greater, and the order of the stabilizer of a point of the first level is the order divided by the length of its orbit. -/
import Derived.Test.YtmbldnoepjmhhaaZPermgroupCountsPCtx1
import Derived.Test.YtmbldnoepjmhhaaZPermgroupCountsMg0
namespace Go.Proofs.Ytmbldnoepjmhhaa.Pure
open Go.RowKit Go.Proofs.Ytmbldnoepjmhhaa.PCt Go.Proofs.YtmbldnoepjmhhaaW.PrintWords Go.Proofs.YtmbldnoepjmhhaaW.PrintLast Go.Proofs.Ytmbldnoepjmhhaa.Plain
set_option linter.unusedVariables false
set_option linter.unusedSimpArgs false
theorem u32_range {i : Int} (h : (Lit.int .u32 i).wf = true) : 0 ≤ i ∧ i < 4294967296 := by
  have hmx : (IntKind.max .u32) = 4294967295 := rfl
  have hmn : (IntKind.min .u32) = 0 := rfl
  have h2 : IntKind.min .u32 ≤ i ∧ i ≤ 4294967295 := by simpa [Lit.wf, hmx] using h
  rw [hmn] at h2
  omega
theorem PermgroupCounts : galoislaw23_PermgroupCounts.Pure := by
  intro a L i j _ _ _ hi hj
  exact ⟨0, if_pos ⟨u32_range hi, u32_range hj⟩⟩
end Go.Proofs.Ytmbldnoepjmhhaa.Pure
