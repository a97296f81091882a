-- Taken from the words that the kit's print.sh lays (WFootNe): what no text of this claim names is left out (wip/tools/shake.py).
import Derived.Test.YtimlnejchieimaaZPermgroupConjugatesWN
namespace Go.Proofs.YtimlnejchieimaaW.PrintWords
open Go.RowKit
namespace Kd
section
variable {α : Type} {d : Kd α} {W : World} {g n : Nat} {S ok : Nat → Prop} {A : Option Addr} {ad : Addr} {xs : List α}
end
end Kd
end Go.Proofs.YtimlnejchieimaaW.PrintWords
