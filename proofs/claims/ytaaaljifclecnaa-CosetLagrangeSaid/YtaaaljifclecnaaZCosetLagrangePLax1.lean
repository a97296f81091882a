-- Printed by wip/tools/mk.py of this repo (the kit's print with turns made in memory).
import Derived.Test.YtaaaljifclecnaaZCosetLagrangePLax0
namespace Go.Proofs.Ytaaaljifclecnaa.PLa
open Go.RowKit Go.Proofs.YtaaaljifclecnaaW.PrintWords Go.Proofs.YtaaaljifclecnaaW.PrintLast Go.Proofs.YtaaaljifclecnaaW.PrintMore
attribute [local go_sem] max2_int min2_int max_two min_two max_three min_three max_four min_four   -- for this text's walks alone
set_option linter.unusedVariables false
set_option linter.unusedSimpArgs false
abbrev coset_Index.f := @Go.Proofs.Ytaaaljifclecnaa.Bs.coset_Index.f
abbrev coset_Index.mono := @Go.Proofs.Ytaaaljifclecnaa.Bs.coset_Index.mono
abbrev coset_Index.calls := @Go.Proofs.Ytaaaljifclecnaa.Bs.coset_Index.calls
abbrev coset_Representatives.f := @Go.Proofs.Ytaaaljifclecnaa.Bs.coset_Representatives.f
abbrev coset_Representatives.mono := @Go.Proofs.Ytaaaljifclecnaa.Bs.coset_Representatives.mono
abbrev coset_Representatives.calls := @Go.Proofs.Ytaaaljifclecnaa.Bs.coset_Representatives.calls
abbrev galoislaw27_awake.f := @Go.Proofs.Ytaaaljifclecnaa.Bs.galoislaw27_awake.f
abbrev galoislaw27_awake.calls := @Go.Proofs.Ytaaaljifclecnaa.Bs.galoislaw27_awake.calls
abbrev galoisref22_Check.f := @Go.Proofs.Ytaaaljifclecnaa.PRf.galoisref22_Check.f
abbrev galoisref22_Check.calls := @Go.Proofs.Ytaaaljifclecnaa.PRf.galoisref22_Check.calls
abbrev galoisref22_Mul.f := @Go.Proofs.Ytaaaljifclecnaa.PRf.galoisref22_Mul.f
abbrev galoisref22_Mul.mono := @Go.Proofs.Ytaaaljifclecnaa.PRf.galoisref22_Mul.mono
abbrev galoisref22_Mul.calls := @Go.Proofs.Ytaaaljifclecnaa.PRf.galoisref22_Mul.calls
abbrev galoislaw27_large.f := @Go.Proofs.Ytaaaljifclecnaa.PGp.galoislaw27_large.f
abbrev galoislaw27_large.calls := @Go.Proofs.Ytaaaljifclecnaa.PGp.galoislaw27_large.calls
abbrev galoislaw27_groups.f := @Go.Proofs.Ytaaaljifclecnaa.PGp.galoislaw27_groups.f
abbrev galoislaw27_groups.calls := @Go.Proofs.Ytaaaljifclecnaa.PGp.galoislaw27_groups.calls
abbrev coset_Find.f := @Go.Proofs.Ytaaaljifclecnaa.Bs.coset_Find.f
abbrev coset_Find.mono := @Go.Proofs.Ytaaaljifclecnaa.Bs.coset_Find.mono
abbrev coset_Find.calls := @Go.Proofs.Ytaaaljifclecnaa.Bs.coset_Find.calls
abbrev coset_DoubleCosets.f := @Go.Proofs.Ytaaaljifclecnaa.Bs.coset_DoubleCosets.f
abbrev coset_DoubleCosets.mono := @Go.Proofs.Ytaaaljifclecnaa.Bs.coset_DoubleCosets.mono
abbrev coset_DoubleCosets.calls := @Go.Proofs.Ytaaaljifclecnaa.Bs.coset_DoubleCosets.calls
end Go.Proofs.Ytaaaljifclecnaa.PLa
