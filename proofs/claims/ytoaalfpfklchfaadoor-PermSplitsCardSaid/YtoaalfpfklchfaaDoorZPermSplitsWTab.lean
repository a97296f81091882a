-- Taken from the words that the kit's print.sh lays (WTab): what no text of this claim names is left out (wip/tools/shake.py).
import Derived.Test.YtoaalfpfklchfaaDoorZPermSplitsWLast
import Derived.Test.YtoaalfpfklchfaaDoorZPermSplitsWWords
namespace Go.Proofs.YtoaalfpfklchfaaDoorW.PrintLast
open Go.Proofs.YtoaalfpfklchfaaDoorW.PrintWords (Aside0)
section
variable {md : Region.Mode} {ops : Array Oper} {T : Bool × List (List Nat × List Nat)} {l l' li lj lk : Array Bool} {ds : List Nat} {i j k : Nat}
end
end Go.Proofs.YtoaalfpfklchfaaDoorW.PrintLast

