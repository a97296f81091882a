/- PermgroupForms: order, elements, reduced form and chain of a group are those of the reference, or there is the reference's error. -/
import Derived.Test.YtmbldnoepjmhhaaZPermgroupFormsPFox1
import Derived.Test.YtmbldnoepjmhhaaZPermgroupFormsMg0
namespace Go.Proofs.Ytmbldnoepjmhhaa.Pure
open Go.RowKit Go.Proofs.Ytmbldnoepjmhhaa.PFo Go.Proofs.YtmbldnoepjmhhaaW.PrintWords Go.Proofs.YtmbldnoepjmhhaaW.PrintLast Go.Proofs.Ytmbldnoepjmhhaa.Plain
set_option linter.unusedVariables false
set_option linter.unusedSimpArgs false
theorem PermgroupForms : galoislaw23_PermgroupForms.Pure := by
  intro _ _ _ _ _
  exact ⟨0, rfl⟩
end Go.Proofs.Ytmbldnoepjmhhaa.Pure
