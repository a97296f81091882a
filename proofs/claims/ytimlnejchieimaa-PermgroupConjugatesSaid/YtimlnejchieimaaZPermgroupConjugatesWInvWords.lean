-- Taken from the words that the kit's print.sh lays (WInvWords): what no text of this claim names is left out (wip/tools/shake.py).
import Derived.Test.YtimlnejchieimaaZPermgroupConjugatesWInv
import Derived.Test.YtimlnejchieimaaZPermgroupConjugatesWFootNe
namespace Go.Proofs.YtimlnejchieimaaW.PrintWords
open Go.RowKit
end Go.Proofs.YtimlnejchieimaaW.PrintWords
namespace Go.Proofs.YtimlnejchieimaaW.PrintLast
section
variable {ops : Array Oper} {a : Act} {o og : Oper} {g : Nat} {t : Tmp} {u : Bool}
end
end Go.Proofs.YtimlnejchieimaaW.PrintLast
