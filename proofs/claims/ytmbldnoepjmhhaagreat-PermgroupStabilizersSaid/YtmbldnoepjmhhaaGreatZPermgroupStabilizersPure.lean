/- PermgroupStabilizers: the stabilizers of points and of a set of points are the reduced groups of the elements that fix each point, and that keep the set; or there is the reference's error. -/
import Derived.Test.YtmbldnoepjmhhaaGreatZPermgroupStabilizersPStx1
import Derived.Test.YtmbldnoepjmhhaaGreatZPermgroupStabilizersMg0
namespace Go.Proofs.YtmbldnoepjmhhaaGreat.Pure
open Go.RowKit Go.Proofs.YtmbldnoepjmhhaaGreat.PSt Go.Proofs.YtmbldnoepjmhhaaGreatW.PrintWords Go.Proofs.YtmbldnoepjmhhaaGreatW.PrintLast Go.Proofs.YtmbldnoepjmhhaaGreat.Plain
set_option linter.unusedVariables false
set_option linter.unusedSimpArgs false
theorem PermgroupStabilizers : galoislaw23_PermgroupStabilizers.Pure := by
  intro a L l1 _ _ _ _ _
  exact ⟨0, rfl⟩
end Go.Proofs.YtmbldnoepjmhhaaGreat.Pure
