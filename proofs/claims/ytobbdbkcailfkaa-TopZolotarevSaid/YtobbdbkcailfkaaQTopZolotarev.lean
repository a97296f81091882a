/- What the printed functions come to: each in plain words (loops by induction). -/
import Derived.Test.YtobbdbkcailfkaaPTopZolotarevx0
import Derived.Test.YtobbdbkcailfkaaLists
namespace Go.Proofs.Ytobbdbkcailfkaa.QTopZolotarev
open Go.RowKit Go.Proofs.Ytobbdbkcailfkaa.PTopZolotarev Go.Proofs.YtobbdbkcailfkaaW.PrintWords Go.Proofs.YtobbdbkcailfkaaW.PrintLast Go.Proofs.Ytobbdbkcailfkaa.Plain
set_option linter.unusedVariables false
set_option linter.unusedSimpArgs false

end Go.Proofs.Ytobbdbkcailfkaa.QTopZolotarev
