/-
  DERIVED. GIVEN WITH THE SEED: THE CARDS: each row of YtoaalfpfklchfaaDoorRows.lean that lists a variable, with what it lists TIED to the program's text (the seventh form; the later family's looks); each row that meets fmt, with fmt's text TOLD by the authors' own Lean function (tested against real Go, not proved from fmt's source: count such statements apart). THE CARD IS WHAT COUNTS. Prove the row's statement (the work); the ties are given (YtoaalfpfklchfaaDoorTie.lean); close each card by the builder's one call (the guide's Derived/Test/ToyasCard.lean, 'card_holds'). Laid BY PROGRAM, IN A SANDBOX (cutbox-door.mjs). By AI agents, Wed Nov 11 2026. No macro, syntax, notation, axiom, sorry.
-/
import Derived.Test.YtoaalfpfklchfaaDoorRows
import GoSem.ClaimSeven
namespace Go.Proofs.YtoaalfpfklchfaaDoor
namespace Rows

/-- THE TIED CARD OF 'galoislaw22.PermPowers'. -/
def permPowersCard : Claim7 := { stood := { row := permPowersRow, standIns := [], harness := (true, "7e9d967a214309af65480127939212c5ce93ae6729d3240b95281c80c59f8d03"), looks := true }, kinds := [], alts := [], laidByText := true, laidKinds := [.data, .data, .data], laidTests := true, laidLooks := .later }
def PermPowersCardSaid : Prop := Claim7.holds Tryd.pinned (.plain (OpenSpec.ofChange permPowersSpec)) permPowersCard

/-- THE TIED CARD OF 'galoislaw22.PermCycles'. -/
def permCyclesCard : Claim7 := { stood := { row := permCyclesRow, standIns := [], harness := (true, "7e9d967a214309af65480127939212c5ce93ae6729d3240b95281c80c59f8d03"), looks := true }, kinds := [], alts := [], laidByText := true, laidKinds := [.data, .data, .data], laidTests := true, laidLooks := .later }
def PermCyclesCardSaid : Prop := Claim7.holds Tryd.pinned (.plain (OpenSpec.ofChange permCyclesSpec)) permCyclesCard

/-- THE TIED CARD OF 'galoislaw22.PermRanks'. -/
def permRanksCard : Claim7 := { stood := { row := permRanksRow, standIns := [], harness := (true, "7e9d967a214309af65480127939212c5ce93ae6729d3240b95281c80c59f8d03"), looks := true }, kinds := [], alts := [], laidByText := true, laidKinds := [.data, .data, .data], laidTests := true, laidLooks := .later }
def PermRanksCardSaid : Prop := Claim7.holds Tryd.pinned (.plain (OpenSpec.ofChange permRanksSpec)) permRanksCard

/-- THE TIED CARD OF 'galoislaw22.PermProducts'. -/
def permProductsCard : Claim7 := { stood := { row := permProductsRow, standIns := [], harness := (true, "7e9d967a214309af65480127939212c5ce93ae6729d3240b95281c80c59f8d03"), looks := true }, kinds := [], alts := [], laidByText := true, laidKinds := [.data, .data, .data], laidTests := true, laidLooks := .later }
def PermProductsCardSaid : Prop := Claim7.holds Tryd.pinned (.plain (OpenSpec.ofChange permProductsSpec)) permProductsCard

/-- THE TIED CARD OF 'galoislaw22.PermSplits'. -/
def permSplitsCard : Claim7 := { stood := { row := permSplitsRow, standIns := [], harness := (true, "7e9d967a214309af65480127939212c5ce93ae6729d3240b95281c80c59f8d03"), looks := true }, kinds := [], alts := [], laidByText := true, laidKinds := [.data, .data, .data], laidTests := true, laidLooks := .later }
def PermSplitsCardSaid : Prop := Claim7.holds Tryd.pinned (.plain (OpenSpec.ofChange permSplitsSpec)) permSplitsCard

/-- THE TIED CARD OF 'galoislaw22.PermTexts'. -/
def permTextsCard : Claim7 := { stood := { row := permTextsRow, standIns := [], harness := (true, "7e9d967a214309af65480127939212c5ce93ae6729d3240b95281c80c59f8d03"), looks := true }, kinds := [], alts := [], laidByText := true, laidKinds := [.data, .data, .data, .sentinel, .sentinel], laidTests := true, laidLooks := .later }
def PermTextsCardSaid : Prop := Claim7.holds Tryd.pinned (.plain (OpenSpec.ofChange permTextsSpec)) permTextsCard

/-- THE TIED CARD OF 'galoislaw22.PermGroup'. -/
def permGroupCard : Claim7 := { stood := { row := permGroupRow, standIns := [], harness := (true, "7e9d967a214309af65480127939212c5ce93ae6729d3240b95281c80c59f8d03"), looks := true }, kinds := [], alts := [], laidByText := true, laidKinds := [.data, .data, .data], laidTests := true, laidLooks := .later }
def PermGroupCardSaid : Prop := Claim7.holds Tryd.pinned (.plain (OpenSpec.ofChange permGroupSpec)) permGroupCard

/-- THE TIED CARD OF 'galoislaw22.PermForms'. -/
def permFormsCard : Claim7 := { stood := { row := permFormsRow, standIns := [], harness := (true, "7e9d967a214309af65480127939212c5ce93ae6729d3240b95281c80c59f8d03"), looks := true }, kinds := [], alts := [], laidByText := true, laidKinds := [.data, .data, .data], laidTests := true, laidLooks := .later }
def PermFormsCardSaid : Prop := Claim7.holds Tryd.pinned (.plain (OpenSpec.ofChange permFormsSpec)) permFormsCard

/-- THE TIED CARD OF 'galoislaw22.PermBack'. -/
def permBackCard : Claim7 := { stood := { row := permBackRow, standIns := [], harness := (true, "7e9d967a214309af65480127939212c5ce93ae6729d3240b95281c80c59f8d03"), looks := true }, kinds := [], alts := [], laidByText := true, laidKinds := [.data, .data, .data, .sentinel, .sentinel], laidTests := true, laidLooks := .later }
def PermBackCardSaid : Prop := Claim7.holds Tryd.pinned (.plain (OpenSpec.ofChange permBackSpec)) permBackCard

/-- THE SECOND FORM's CARD OF 'galoislaw22.PermPowers'. -/
def permPowersUptoCard : Claim7 := { stood := { row := permPowersUptoRow, standIns := [], harness := (true, "7e9d967a214309af65480127939212c5ce93ae6729d3240b95281c80c59f8d03"), looks := true }, kinds := [], alts := [], laidByText := true, laidKinds := [.data, .data, .data], laidTests := true, laidLooks := .later }
def PermPowersUptoCardSaid : Prop := Claim7.holds Tryd.pinned (.plain (OpenSpec.upto permPowersSpec)) permPowersUptoCard

/-- THE SECOND FORM's CARD OF 'galoislaw22.PermCycles'. -/
def permCyclesUptoCard : Claim7 := { stood := { row := permCyclesUptoRow, standIns := [], harness := (true, "7e9d967a214309af65480127939212c5ce93ae6729d3240b95281c80c59f8d03"), looks := true }, kinds := [], alts := [], laidByText := true, laidKinds := [.data, .data, .data], laidTests := true, laidLooks := .later }
def PermCyclesUptoCardSaid : Prop := Claim7.holds Tryd.pinned (.plain (OpenSpec.upto permCyclesSpec)) permCyclesUptoCard

/-- THE SECOND FORM's CARD OF 'galoislaw22.PermRanks'. -/
def permRanksUptoCard : Claim7 := { stood := { row := permRanksUptoRow, standIns := [], harness := (true, "7e9d967a214309af65480127939212c5ce93ae6729d3240b95281c80c59f8d03"), looks := true }, kinds := [], alts := [], laidByText := true, laidKinds := [.data, .data, .data], laidTests := true, laidLooks := .later }
def PermRanksUptoCardSaid : Prop := Claim7.holds Tryd.pinned (.plain (OpenSpec.upto permRanksSpec)) permRanksUptoCard

/-- THE SECOND FORM's CARD OF 'galoislaw22.PermProducts'. -/
def permProductsUptoCard : Claim7 := { stood := { row := permProductsUptoRow, standIns := [], harness := (true, "7e9d967a214309af65480127939212c5ce93ae6729d3240b95281c80c59f8d03"), looks := true }, kinds := [], alts := [], laidByText := true, laidKinds := [.data, .data, .data], laidTests := true, laidLooks := .later }
def PermProductsUptoCardSaid : Prop := Claim7.holds Tryd.pinned (.plain (OpenSpec.upto permProductsSpec)) permProductsUptoCard

/-- THE SECOND FORM's CARD OF 'galoislaw22.PermSplits'. -/
def permSplitsUptoCard : Claim7 := { stood := { row := permSplitsUptoRow, standIns := [], harness := (true, "7e9d967a214309af65480127939212c5ce93ae6729d3240b95281c80c59f8d03"), looks := true }, kinds := [], alts := [], laidByText := true, laidKinds := [.data, .data, .data], laidTests := true, laidLooks := .later }
def PermSplitsUptoCardSaid : Prop := Claim7.holds Tryd.pinned (.plain (OpenSpec.upto permSplitsSpec)) permSplitsUptoCard

/-- THE SECOND FORM's CARD OF 'galoislaw22.PermTexts'. -/
def permTextsUptoCard : Claim7 := { stood := { row := permTextsUptoRow, standIns := [], harness := (true, "7e9d967a214309af65480127939212c5ce93ae6729d3240b95281c80c59f8d03"), looks := true }, kinds := [], alts := [], laidByText := true, laidKinds := [.data, .data, .data, .sentinel, .sentinel], laidTests := true, laidLooks := .later }
def PermTextsUptoCardSaid : Prop := Claim7.holds Tryd.pinned (.plain (OpenSpec.upto permTextsSpec)) permTextsUptoCard

/-- THE SECOND FORM's CARD OF 'galoislaw22.PermGroup'. -/
def permGroupUptoCard : Claim7 := { stood := { row := permGroupUptoRow, standIns := [], harness := (true, "7e9d967a214309af65480127939212c5ce93ae6729d3240b95281c80c59f8d03"), looks := true }, kinds := [], alts := [], laidByText := true, laidKinds := [.data, .data, .data], laidTests := true, laidLooks := .later }
def PermGroupUptoCardSaid : Prop := Claim7.holds Tryd.pinned (.plain (OpenSpec.upto permGroupSpec)) permGroupUptoCard

/-- THE SECOND FORM's CARD OF 'galoislaw22.PermForms'. -/
def permFormsUptoCard : Claim7 := { stood := { row := permFormsUptoRow, standIns := [], harness := (true, "7e9d967a214309af65480127939212c5ce93ae6729d3240b95281c80c59f8d03"), looks := true }, kinds := [], alts := [], laidByText := true, laidKinds := [.data, .data, .data], laidTests := true, laidLooks := .later }
def PermFormsUptoCardSaid : Prop := Claim7.holds Tryd.pinned (.plain (OpenSpec.upto permFormsSpec)) permFormsUptoCard

/-- THE SECOND FORM's CARD OF 'galoislaw22.PermBack'. -/
def permBackUptoCard : Claim7 := { stood := { row := permBackUptoRow, standIns := [], harness := (true, "7e9d967a214309af65480127939212c5ce93ae6729d3240b95281c80c59f8d03"), looks := true }, kinds := [], alts := [], laidByText := true, laidKinds := [.data, .data, .data, .sentinel, .sentinel], laidTests := true, laidLooks := .later }
def PermBackUptoCardSaid : Prop := Claim7.holds Tryd.pinned (.plain (OpenSpec.upto permBackSpec)) permBackUptoCard
end Rows
end Go.Proofs.YtoaalfpfklchfaaDoor
