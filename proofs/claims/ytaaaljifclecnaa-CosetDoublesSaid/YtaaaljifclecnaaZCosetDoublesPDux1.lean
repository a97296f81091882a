-- Printed.
import Derived.Test.YtaaaljifclecnaaZCosetDoublesPDux0
namespace Go.Proofs.Ytaaaljifclecnaa.PDu
open Go.RowKit Go.Proofs.YtaaaljifclecnaaW.PrintWords Go.Proofs.YtaaaljifclecnaaW.PrintLast Go.Proofs.YtaaaljifclecnaaW.PrintMore
attribute [local go_sem] max2_int min2_int max_two min_two max_three min_three max_four min_four
set_option linter.unusedVariables false
set_option linter.unusedSimpArgs false
abbrev galoisref22_Same.f := @Go.Proofs.Ytaaaljifclecnaa.PRf.galoisref22_Same.f
abbrev galoisref22_Same.mono := @Go.Proofs.Ytaaaljifclecnaa.PRf.galoisref22_Same.mono
abbrev galoisref22_Same.calls := @Go.Proofs.Ytaaaljifclecnaa.PRf.galoisref22_Same.calls
abbrev galoisref22_SamePerms.f := @Go.Proofs.Ytaaaljifclecnaa.PRf.galoisref22_SamePerms.f
abbrev galoisref22_SamePerms.calls := @Go.Proofs.Ytaaaljifclecnaa.PRf.galoisref22_SamePerms.calls
abbrev galoislaw27_awake.f := @Go.Proofs.Ytaaaljifclecnaa.Bs.galoislaw27_awake.f
abbrev galoislaw27_awake.calls := @Go.Proofs.Ytaaaljifclecnaa.Bs.galoislaw27_awake.calls
abbrev galoisref23_Check.f := @Go.Proofs.Ytaaaljifclecnaa.PRf.galoisref23_Check.f
abbrev galoisref23_Check.calls := @Go.Proofs.Ytaaaljifclecnaa.PRf.galoisref23_Check.calls
abbrev galoislaw27_large.f := @Go.Proofs.Ytaaaljifclecnaa.PGp.galoislaw27_large.f
abbrev galoislaw27_large.calls := @Go.Proofs.Ytaaaljifclecnaa.PGp.galoislaw27_large.calls
abbrev galoislaw27_groups.f := @Go.Proofs.Ytaaaljifclecnaa.PGp.galoislaw27_groups.f
abbrev galoislaw27_groups.calls := @Go.Proofs.Ytaaaljifclecnaa.PGp.galoislaw27_groups.calls
abbrev coset_DoubleCosets.f := @Go.Proofs.Ytaaaljifclecnaa.Bs.coset_DoubleCosets.f
abbrev coset_DoubleCosets.mono := @Go.Proofs.Ytaaaljifclecnaa.Bs.coset_DoubleCosets.mono
abbrev coset_DoubleCosets.calls := @Go.Proofs.Ytaaaljifclecnaa.Bs.coset_DoubleCosets.calls
abbrev galoisref27_DoubleCosets.f := @Go.Proofs.Ytaaaljifclecnaa.Bs.galoisref27_DoubleCosets.f
abbrev galoisref27_DoubleCosets.mono := @Go.Proofs.Ytaaaljifclecnaa.Bs.galoisref27_DoubleCosets.mono
abbrev galoisref27_DoubleCosets.calls := @Go.Proofs.Ytaaaljifclecnaa.Bs.galoisref27_DoubleCosets.calls
end Go.Proofs.Ytaaaljifclecnaa.PDu
