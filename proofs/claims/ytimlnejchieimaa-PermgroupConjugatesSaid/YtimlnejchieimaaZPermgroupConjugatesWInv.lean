-- Taken from the words that the kit's print.sh lays (WInv): what no text of this claim names is left out (wip/tools/shake.py).
import Derived.Test.YtimlnejchieimaaZPermgroupConjugatesWTab
namespace Go.Proofs.YtimlnejchieimaaW.PrintLast
section
variable {P : Program} {ops : Array Oper} {Q : Exit → Act → World → Prop} {md : Region.Mode} {T : Bool × List (List Nat × List Nat)} {B : List Nat} {O : List Nat} {b : Nat → Bool} {i j n : Nat}
end
end Go.Proofs.YtimlnejchieimaaW.PrintLast
