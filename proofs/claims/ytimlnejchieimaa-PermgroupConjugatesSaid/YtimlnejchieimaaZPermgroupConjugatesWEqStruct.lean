-- Taken from the words that the kit's print.sh lays (WEqStruct): what no text of this claim names is left out (wip/tools/shake.py).
import Derived.Test.YtimlnejchieimaaZPermgroupConjugatesWWords
import Derived.Laws.StructEq
namespace Go.Proofs.YtimlnejchieimaaW.PrintWords
open Go.RowKit
section
variable {P : Program} {d : Nat} {xs ys : Array Value} {f : Field} {fs : List Field} {a b : Value} {r s : Bool} {w : World}
end
end Go.Proofs.YtimlnejchieimaaW.PrintWords
