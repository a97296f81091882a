-- Taken from the words that the kit's print.sh lays (WInvWords): what no text of this claim names is left out (wip/tools/shake.py).
import Derived.Test.YtoaalfpfklchfaaDoorZPermSplitsWInv
import Derived.Test.YtoaalfpfklchfaaDoorZPermSplitsWFootNe
namespace Go.Proofs.YtoaalfpfklchfaaDoorW.PrintWords
open Go.RowKit
end Go.Proofs.YtoaalfpfklchfaaDoorW.PrintWords
namespace Go.Proofs.YtoaalfpfklchfaaDoorW.PrintLast
section
variable {ops : Array Oper} {a : Act} {o og : Oper} {g : Nat} {t : Tmp} {u : Bool}
end
end Go.Proofs.YtoaalfpfklchfaaDoorW.PrintLast

