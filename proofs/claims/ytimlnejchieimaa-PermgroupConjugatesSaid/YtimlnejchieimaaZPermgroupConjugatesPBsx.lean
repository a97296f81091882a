-- Printed by wip/tools/mk.py of this repo (the kit's print with turns made in memory).
import Derived.Test.YtimlnejchieimaaZPermgroupConjugatesPBsx0
import Derived.Test.YtimlnejchieimaaZPermgroupConjugatesPBsx1
import Derived.Test.YtimlnejchieimaaZPermgroupConjugatesPBsx2
namespace Go.Proofs.Ytimlnejchieimaa.PBs
open Go.RowKit Go.Proofs.YtimlnejchieimaaW.PrintWords Go.Proofs.YtimlnejchieimaaW.PrintLast Go.Proofs.YtimlnejchieimaaW.PrintMore
attribute [local go_sem] max2_int min2_int max_two min_two max_three min_three max_four min_four   -- for this text's walks alone
set_option linter.unusedVariables false
set_option linter.unusedSimpArgs false
end Go.Proofs.Ytimlnejchieimaa.PBs
