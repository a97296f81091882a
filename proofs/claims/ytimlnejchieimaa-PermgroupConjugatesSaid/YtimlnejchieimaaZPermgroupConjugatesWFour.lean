-- Taken from the words that the kit's print.sh lays (WFour): what no text of this claim names is left out (wip/tools/shake.py).
import Derived.Test.YtimlnejchieimaaZPermgroupConjugatesWTab
namespace Go.Proofs.YtimlnejchieimaaW.PrintLast
section
variable {P : Program} {ops : Array Oper} {Q : Exit → Act → World → Prop} {md : Region.Mode} {S : World → Prop} {ds : List Nat} {T : Bool × List (List Nat × List Nat)}
end
end Go.Proofs.YtimlnejchieimaaW.PrintLast
