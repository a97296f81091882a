/- PermgroupPairs: two groups are compared, joined and met as the reference does, or there is the reference's error. -/
import Derived.Test.YtmbldnoepjmhhaaGreatZPermgroupPairsPPax1
import Derived.Test.YtmbldnoepjmhhaaGreatZPermgroupPairsMg0
namespace Go.Proofs.YtmbldnoepjmhhaaGreat.Pure
open Go.RowKit Go.Proofs.YtmbldnoepjmhhaaGreat.PPa Go.Proofs.YtmbldnoepjmhhaaGreatW.PrintWords Go.Proofs.YtmbldnoepjmhhaaGreatW.PrintLast Go.Proofs.YtmbldnoepjmhhaaGreat.Plain
set_option linter.unusedVariables false
set_option linter.unusedSimpArgs false
theorem PermgroupPairs : galoislaw23_PermgroupPairs.Pure := by
  intro _ _ _ _ _ _ _ _ _ _
  exact ⟨0, rfl⟩
end Go.Proofs.YtmbldnoepjmhhaaGreat.Pure
