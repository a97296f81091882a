-- Printed.
import Derived.Test.YtmbldnoepjmhhaaZPermgroupFormsPScx0
namespace Go.Proofs.Ytmbldnoepjmhhaa.PSc
open Go.RowKit Go.Proofs.YtmbldnoepjmhhaaW.PrintWords Go.Proofs.YtmbldnoepjmhhaaW.PrintLast Go.Proofs.YtmbldnoepjmhhaaW.PrintMore Go.Proofs.Ytmbldnoepjmhhaa.PAll
attribute [local go_sem] max2_int min2_int max_two min_two max_three min_three max_four min_four
set_option linter.unusedVariables false
set_option linter.unusedSimpArgs false
abbrev galoisref22_Same.f := @Go.Proofs.Ytmbldnoepjmhhaa.PRf.galoisref22_Same.f
abbrev galoisref22_Same.mono := @Go.Proofs.Ytmbldnoepjmhhaa.PRf.galoisref22_Same.mono
abbrev galoisref22_Same.calls := @Go.Proofs.Ytmbldnoepjmhhaa.PRf.galoisref22_Same.calls
abbrev galoisref22_SamePerms.f := @Go.Proofs.Ytmbldnoepjmhhaa.PRf.galoisref22_SamePerms.f
abbrev galoisref22_SamePerms.calls := @Go.Proofs.Ytmbldnoepjmhhaa.PRf.galoisref22_SamePerms.calls
end Go.Proofs.Ytmbldnoepjmhhaa.PSc
