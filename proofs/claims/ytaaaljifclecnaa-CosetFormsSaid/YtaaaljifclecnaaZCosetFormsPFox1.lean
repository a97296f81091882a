-- Printed by wip/tools/mk.py of this repo (the kit's print with turns made in memory).
import Derived.Test.YtaaaljifclecnaaZCosetFormsPFox0
namespace Go.Proofs.Ytaaaljifclecnaa.PFo
open Go.RowKit Go.Proofs.YtaaaljifclecnaaW.PrintWords Go.Proofs.YtaaaljifclecnaaW.PrintLast Go.Proofs.YtaaaljifclecnaaW.PrintMore
attribute [local go_sem] max2_int min2_int max_two min_two max_three min_three max_four min_four   -- for this text's walks alone
set_option linter.unusedVariables false
set_option linter.unusedSimpArgs false
abbrev coset_Index.f := @Go.Proofs.Ytaaaljifclecnaa.Bs.coset_Index.f
abbrev coset_Index.mono := @Go.Proofs.Ytaaaljifclecnaa.Bs.coset_Index.mono
abbrev coset_Index.calls := @Go.Proofs.Ytaaaljifclecnaa.Bs.coset_Index.calls
abbrev coset_Representatives.f := @Go.Proofs.Ytaaaljifclecnaa.Bs.coset_Representatives.f
abbrev coset_Representatives.mono := @Go.Proofs.Ytaaaljifclecnaa.Bs.coset_Representatives.mono
abbrev coset_Representatives.calls := @Go.Proofs.Ytaaaljifclecnaa.Bs.coset_Representatives.calls
abbrev galoisref22_SamePerms.f := @Go.Proofs.Ytaaaljifclecnaa.PRf.galoisref22_SamePerms.f
abbrev galoisref22_SamePerms.calls := @Go.Proofs.Ytaaaljifclecnaa.PRf.galoisref22_SamePerms.calls
abbrev galoislaw27_awake.f := @Go.Proofs.Ytaaaljifclecnaa.Bs.galoislaw27_awake.f
abbrev galoislaw27_awake.calls := @Go.Proofs.Ytaaaljifclecnaa.Bs.galoislaw27_awake.calls
abbrev galoisref23_Has.f := @Go.Proofs.Ytaaaljifclecnaa.PRf.galoisref23_Has.f
abbrev galoisref23_Has.mono := @Go.Proofs.Ytaaaljifclecnaa.PRf.galoisref23_Has.mono
abbrev galoisref23_Has.calls := @Go.Proofs.Ytaaaljifclecnaa.PRf.galoisref23_Has.calls
abbrev galoislaw27_large.f := @Go.Proofs.Ytaaaljifclecnaa.PGp.galoislaw27_large.f
abbrev galoislaw27_large.calls := @Go.Proofs.Ytaaaljifclecnaa.PGp.galoislaw27_large.calls
abbrev galoisref23_Two.f := @Go.Proofs.Ytaaaljifclecnaa.PRf.galoisref23_Two.f
abbrev galoisref23_Two.calls := @Go.Proofs.Ytaaaljifclecnaa.PRf.galoisref23_Two.calls
abbrev galoislaw27_groups.f := @Go.Proofs.Ytaaaljifclecnaa.PGp.galoislaw27_groups.f
abbrev galoislaw27_groups.calls := @Go.Proofs.Ytaaaljifclecnaa.PGp.galoislaw27_groups.calls
abbrev coset_Find.f := @Go.Proofs.Ytaaaljifclecnaa.Bs.coset_Find.f
abbrev coset_Find.mono := @Go.Proofs.Ytaaaljifclecnaa.Bs.coset_Find.mono
abbrev coset_Find.calls := @Go.Proofs.Ytaaaljifclecnaa.Bs.coset_Find.calls
abbrev galoisref23_With.f := @Go.Proofs.Ytaaaljifclecnaa.PRf.galoisref23_With.f
abbrev galoisref23_With.calls := @Go.Proofs.Ytaaaljifclecnaa.PRf.galoisref23_With.calls
abbrev galoisref27_Representatives.f := @Go.Proofs.Ytaaaljifclecnaa.Bs.galoisref27_Representatives.f
abbrev galoisref27_Representatives.mono := @Go.Proofs.Ytaaaljifclecnaa.Bs.galoisref27_Representatives.mono
abbrev galoisref27_Representatives.calls := @Go.Proofs.Ytaaaljifclecnaa.Bs.galoisref27_Representatives.calls
abbrev galoisref27_Find.f := @Go.Proofs.Ytaaaljifclecnaa.Bs.galoisref27_Find.f
abbrev galoisref27_Find.mono := @Go.Proofs.Ytaaaljifclecnaa.Bs.galoisref27_Find.mono
abbrev galoisref27_Find.calls := @Go.Proofs.Ytaaaljifclecnaa.Bs.galoisref27_Find.calls
end Go.Proofs.Ytaaaljifclecnaa.PFo
