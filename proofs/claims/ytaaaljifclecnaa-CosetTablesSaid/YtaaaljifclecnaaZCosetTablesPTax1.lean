-- Printed by wip/tools/mk.py of this repo (the kit's print with turns made in memory).
import Derived.Test.YtaaaljifclecnaaZCosetTablesPTax0
namespace Go.Proofs.Ytaaaljifclecnaa.PTa
open Go.RowKit Go.Proofs.YtaaaljifclecnaaW.PrintWords Go.Proofs.YtaaaljifclecnaaW.PrintLast Go.Proofs.YtaaaljifclecnaaW.PrintMore
attribute [local go_sem] max2_int min2_int max_two min_two max_three min_three max_four min_four   -- for this text's walks alone
set_option linter.unusedVariables false
set_option linter.unusedSimpArgs false
abbrev coset_Quotient.f := @Go.Proofs.Ytaaaljifclecnaa.Bs.coset_Quotient.f
abbrev coset_Quotient.mono := @Go.Proofs.Ytaaaljifclecnaa.Bs.coset_Quotient.mono
abbrev coset_Quotient.calls := @Go.Proofs.Ytaaaljifclecnaa.Bs.coset_Quotient.calls
abbrev galoisref22_SameLists.f := @Go.Proofs.Ytaaaljifclecnaa.PRf.galoisref22_SameLists.f
abbrev galoisref22_SameLists.calls := @Go.Proofs.Ytaaaljifclecnaa.PRf.galoisref22_SameLists.calls
abbrev galoislaw27_awake.f := @Go.Proofs.Ytaaaljifclecnaa.Bs.galoislaw27_awake.f
abbrev galoislaw27_awake.calls := @Go.Proofs.Ytaaaljifclecnaa.Bs.galoislaw27_awake.calls
abbrev galoisref23_Check.f := @Go.Proofs.Ytaaaljifclecnaa.PRf.galoisref23_Check.f
abbrev galoisref23_Check.calls := @Go.Proofs.Ytaaaljifclecnaa.PRf.galoisref23_Check.calls
abbrev galoisref23_Elements.f := @Go.Proofs.Ytaaaljifclecnaa.PGp.galoisref23_Elements.f
abbrev galoisref23_Elements.calls := @Go.Proofs.Ytaaaljifclecnaa.PGp.galoisref23_Elements.calls
abbrev galoislaw27_large.f := @Go.Proofs.Ytaaaljifclecnaa.PGp.galoislaw27_large.f
abbrev galoislaw27_large.calls := @Go.Proofs.Ytaaaljifclecnaa.PGp.galoislaw27_large.calls
abbrev coset_Table.f := @Go.Proofs.Ytaaaljifclecnaa.Bs.coset_Table.f
abbrev coset_Table.mono := @Go.Proofs.Ytaaaljifclecnaa.Bs.coset_Table.mono
abbrev coset_Table.calls := @Go.Proofs.Ytaaaljifclecnaa.Bs.coset_Table.calls
abbrev galoisref27_Table.f := @Go.Proofs.Ytaaaljifclecnaa.PGp.galoisref27_Table.f
abbrev galoisref27_Table.calls := @Go.Proofs.Ytaaaljifclecnaa.PGp.galoisref27_Table.calls
abbrev galoislaw27_groups.f := @Go.Proofs.Ytaaaljifclecnaa.PGp.galoislaw27_groups.f
abbrev galoislaw27_groups.calls := @Go.Proofs.Ytaaaljifclecnaa.PGp.galoislaw27_groups.calls
abbrev galoisref27_Core.f := @Go.Proofs.Ytaaaljifclecnaa.PGp.galoisref27_Core.f
abbrev galoisref27_Core.calls := @Go.Proofs.Ytaaaljifclecnaa.PGp.galoisref27_Core.calls
abbrev galoisref27_Quotient.f := @Go.Proofs.Ytaaaljifclecnaa.PGp.galoisref27_Quotient.f
abbrev galoisref27_Quotient.calls := @Go.Proofs.Ytaaaljifclecnaa.PGp.galoisref27_Quotient.calls
end Go.Proofs.Ytaaaljifclecnaa.PTa
