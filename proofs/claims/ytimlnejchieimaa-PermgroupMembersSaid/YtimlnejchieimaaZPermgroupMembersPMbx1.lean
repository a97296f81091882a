-- Printed by wip/tools/mk.py of this repo (the kit's print with turns made in memory).
import Derived.Test.YtimlnejchieimaaZPermgroupMembersPMbx0
namespace Go.Proofs.Ytimlnejchieimaa.PMb
open Go.RowKit Go.Proofs.YtimlnejchieimaaW.PrintWords Go.Proofs.YtimlnejchieimaaW.PrintLast Go.Proofs.YtimlnejchieimaaW.PrintMore Go.Proofs.Ytimlnejchieimaa.PAll
attribute [local go_sem] max2_int min2_int max_two min_two max_three min_three max_four min_four   -- for this text's walks alone
set_option linter.unusedVariables false
set_option linter.unusedSimpArgs false
abbrev galoisref22_Same.f := @Go.Proofs.Ytimlnejchieimaa.PRf.galoisref22_Same.f
abbrev galoisref22_Same.mono := @Go.Proofs.Ytimlnejchieimaa.PRf.galoisref22_Same.mono
abbrev galoisref22_Same.calls := @Go.Proofs.Ytimlnejchieimaa.PRf.galoisref22_Same.calls
abbrev permgroup_Index.f := @Go.Proofs.Ytimlnejchieimaa.Bs.permgroup_Index.f
abbrev permgroup_Index.mono := @Go.Proofs.Ytimlnejchieimaa.Bs.permgroup_Index.mono
abbrev permgroup_Index.calls := @Go.Proofs.Ytimlnejchieimaa.Bs.permgroup_Index.calls
abbrev galoislaw23_awake.f := @Go.Proofs.Ytimlnejchieimaa.Bs.galoislaw23_awake.f
abbrev galoislaw23_awake.calls := @Go.Proofs.Ytimlnejchieimaa.Bs.galoislaw23_awake.calls
abbrev galoisref23_Check.f := @Go.Proofs.Ytimlnejchieimaa.PRf.galoisref23_Check.f
abbrev galoisref23_Check.mono := @Go.Proofs.Ytimlnejchieimaa.PRf.galoisref23_Check.mono
abbrev galoisref23_Check.calls := @Go.Proofs.Ytimlnejchieimaa.PRf.galoisref23_Check.calls
abbrev galoisref23_Place.f := @Go.Proofs.Ytimlnejchieimaa.PRf.galoisref23_Place.f
abbrev galoisref23_Place.mono := @Go.Proofs.Ytimlnejchieimaa.PRf.galoisref23_Place.mono
abbrev galoisref23_Place.calls := @Go.Proofs.Ytimlnejchieimaa.PRf.galoisref23_Place.calls
abbrev galoisref23_Has.f := @Go.Proofs.Ytimlnejchieimaa.PRf.galoisref23_Has.f
abbrev galoisref23_Has.mono := @Go.Proofs.Ytimlnejchieimaa.PRf.galoisref23_Has.mono
abbrev galoisref23_Has.calls := @Go.Proofs.Ytimlnejchieimaa.PRf.galoisref23_Has.calls
abbrev galoisref23_Elements.f := @Go.Proofs.Ytimlnejchieimaa.PPg.galoisref23_Elements.f
abbrev galoisref23_Elements.mono := @Go.Proofs.Ytimlnejchieimaa.PPg.galoisref23_Elements.mono
abbrev galoisref23_Elements.calls := @Go.Proofs.Ytimlnejchieimaa.PPg.galoisref23_Elements.calls
abbrev galoislaw23_large.f := @Go.Proofs.Ytimlnejchieimaa.PPg.galoislaw23_large.f
abbrev galoislaw23_large.mono := @Go.Proofs.Ytimlnejchieimaa.PPg.galoislaw23_large.mono
abbrev galoislaw23_large.calls := @Go.Proofs.Ytimlnejchieimaa.PPg.galoislaw23_large.calls
abbrev permgroup_Contains.f := @Go.Proofs.Ytimlnejchieimaa.Bs.permgroup_Contains.f
abbrev permgroup_Contains.mono := @Go.Proofs.Ytimlnejchieimaa.Bs.permgroup_Contains.mono
abbrev permgroup_Contains.calls := @Go.Proofs.Ytimlnejchieimaa.Bs.permgroup_Contains.calls
abbrev permgroup_Element.f := @Go.Proofs.Ytimlnejchieimaa.Bs.permgroup_Element.f
abbrev permgroup_Element.mono := @Go.Proofs.Ytimlnejchieimaa.Bs.permgroup_Element.mono
abbrev permgroup_Element.calls := @Go.Proofs.Ytimlnejchieimaa.Bs.permgroup_Element.calls
abbrev galoisref23_With.f := @Go.Proofs.Ytimlnejchieimaa.PRf.galoisref23_With.f
abbrev galoisref23_With.mono := @Go.Proofs.Ytimlnejchieimaa.PRf.galoisref23_With.mono
abbrev galoisref23_With.calls := @Go.Proofs.Ytimlnejchieimaa.PRf.galoisref23_With.calls
end Go.Proofs.Ytimlnejchieimaa.PMb
