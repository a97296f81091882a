/-
  NARROWER THAN 'FOR EVERY INPUT', by the rows' own cells (each row's printed sentence says how): PermPowers: laid · PermCycles: laid · PermRanks: laid · PermProducts: laid · PermSplits: laid · PermTexts: laid · PermGroup: laid · PermForms: laid · PermBack: laid.
  DERIVED. THE GIVEN ROWS OF THIS SEAT. 9 by the template 'for every input the law returns true; each argument reads behind the call as it read before'; 0 by the template 'total and deterministic' (their statements: YtoaalfpfklchfaaDoorTotals.lean).
  GIVEN WITH THE SEED: the statements are not yours to turn. If you find one false, say at which input.
  Laid BY PROGRAM, IN A SANDBOX (cutbox-rows.mjs): the forced cells as the released guide's own fill.sh prints them over the translation a9a208dd8e6e194e… (all of the seat's roots in one cut). By AI agents, Wed Nov 11 2026. No macro, syntax, notation, axiom, sorry.
-/
import Derived.Test.YtoaalfpfklchfaaDoorChecked
import GoSem.Claim
import GoSem.ClaimJoined
import GoSem.ClaimMapViews
import Derived.JoinedTies
import Derived.KernelRfl
namespace Go.Proofs.YtoaalfpfklchfaaDoor
/- THE CELL 'sum', in the pinned program and in every row, IS THE sha256 OF THE DUMP (.gsa) THAT YtoaalfpfklchfaaDoorProg.lean LOADS. Nothing in Lean hashes anything: it is a label: what it is worth is what the hold of that sum in a sandbox is worth. -/
noncomputable def Tryd.pinned : Pinned := { name := "ytoaalfpfklchfaadoor", sum := "a9a208dd8e6e194e38fcf2e6d718eb8346674a2c04e4b5b1f4790ea05d5e52fb", checked := Tryd.checked }
namespace Rows
def none {H : Type} : Left H := { results := [], args := [] }

/- WHAT THE LISTED PACKAGE-LEVEL VARIABLES READ AS WHEN THE CALL BEGINS. Each datum BY PROGRAM (the guide's laid-datum.mjs) off the statement by which the dump's own 'gosem.cut.vars' lays the variable. In a bare row this is a premise. The card (YtoaalfpfklchfaaDoorCards.lean) ties it to the program's text. -/
def laid_math_bits_deBruijn32tab {H : Type} : DataW H := .agg [.lit (.int .u8 0), .lit (.int .u8 1), .lit (.int .u8 28), .lit (.int .u8 2), .lit (.int .u8 29), .lit (.int .u8 14), .lit (.int .u8 24), .lit (.int .u8 3), .lit (.int .u8 30), .lit (.int .u8 22), .lit (.int .u8 20), .lit (.int .u8 15), .lit (.int .u8 25), .lit (.int .u8 17), .lit (.int .u8 4), .lit (.int .u8 8), .lit (.int .u8 31), .lit (.int .u8 27), .lit (.int .u8 13), .lit (.int .u8 23), .lit (.int .u8 21), .lit (.int .u8 19), .lit (.int .u8 16), .lit (.int .u8 7), .lit (.int .u8 26), .lit (.int .u8 12), .lit (.int .u8 18), .lit (.int .u8 6), .lit (.int .u8 11), .lit (.int .u8 5), .lit (.int .u8 10), .lit (.int .u8 9)]
def laid_math_bits_deBruijn64tab {H : Type} : DataW H := .agg [.lit (.int .u8 0), .lit (.int .u8 1), .lit (.int .u8 56), .lit (.int .u8 2), .lit (.int .u8 57), .lit (.int .u8 49), .lit (.int .u8 28), .lit (.int .u8 3), .lit (.int .u8 61), .lit (.int .u8 58), .lit (.int .u8 42), .lit (.int .u8 50), .lit (.int .u8 38), .lit (.int .u8 29), .lit (.int .u8 17), .lit (.int .u8 4), .lit (.int .u8 62), .lit (.int .u8 47), .lit (.int .u8 59), .lit (.int .u8 36), .lit (.int .u8 45), .lit (.int .u8 43), .lit (.int .u8 51), .lit (.int .u8 22), .lit (.int .u8 53), .lit (.int .u8 39), .lit (.int .u8 33), .lit (.int .u8 30), .lit (.int .u8 24), .lit (.int .u8 18), .lit (.int .u8 12), .lit (.int .u8 5), .lit (.int .u8 63), .lit (.int .u8 55), .lit (.int .u8 48), .lit (.int .u8 27), .lit (.int .u8 60), .lit (.int .u8 41), .lit (.int .u8 37), .lit (.int .u8 16), .lit (.int .u8 46), .lit (.int .u8 35), .lit (.int .u8 44), .lit (.int .u8 21), .lit (.int .u8 52), .lit (.int .u8 32), .lit (.int .u8 23), .lit (.int .u8 11), .lit (.int .u8 54), .lit (.int .u8 26), .lit (.int .u8 40), .lit (.int .u8 15), .lit (.int .u8 34), .lit (.int .u8 20), .lit (.int .u8 31), .lit (.int .u8 10), .lit (.int .u8 25), .lit (.int .u8 14), .lit (.int .u8 19), .lit (.int .u8 9), .lit (.int .u8 13), .lit (.int .u8 8), .lit (.int .u8 7), .lit (.int .u8 6)]
def laid_internal_strconv_uint64pow10 {H : Type} : DataW H := .agg [.lit (.int .u64 1), .lit (.int .u64 10), .lit (.int .u64 100), .lit (.int .u64 1000), .lit (.int .u64 10000), .lit (.int .u64 100000), .lit (.int .u64 1000000), .lit (.int .u64 10000000), .lit (.int .u64 100000000), .lit (.int .u64 1000000000), .lit (.int .u64 10000000000), .lit (.int .u64 100000000000), .lit (.int .u64 1000000000000), .lit (.int .u64 10000000000000), .lit (.int .u64 100000000000000), .lit (.int .u64 1000000000000000), .lit (.int .u64 10000000000000000), .lit (.int .u64 100000000000000000), .lit (.int .u64 1000000000000000000), .lit (.int .u64 10000000000000000000)]
def laid_strconv_ErrRange {H : Type} : DataW H := .iface "*errors.errorString" (.ptr (.agg [.lit (.string [118, 97, 108, 117, 101, 32, 111, 117, 116, 32, 111, 102, 32, 114, 97, 110, 103, 101])]))
def laid_strconv_ErrSyntax {H : Type} : DataW H := .iface "*errors.errorString" (.ptr (.agg [.lit (.string [105, 110, 118, 97, 108, 105, 100, 32, 115, 121, 110, 116, 97, 120])]))

/-- 'galoislaw22.PermPowers': WHATEVER THE INPUT: true; the input reads as it did. -/
def permPowersSpec : ChangeSpec := { name := "permPowers", fn := fun _ => fun
  | [d1, d2, d3] => { results := [.lit (.bool true)], args := [d1, d2, d3] }
  | _ => none }
def permPowersRow : OpenClaim := { program := "ytoaalfpfklchfaadoor", sum := "a9a208dd8e6e194e38fcf2e6d718eb8346674a2c04e4b5b1f4790ea05d5e52fb", func := "galois/galoislaw22.PermPowers", spec := "permPowers", named := ["internal/strconv.uint64pow10", "math/bits.deBruijn32tab", "math/bits.deBruijn64tab"], apart := false, laid := [("math/bits.deBruijn32tab", laid_math_bits_deBruijn32tab), ("math/bits.deBruijn64tab", laid_math_bits_deBruijn64tab), ("internal/strconv.uint64pow10", laid_internal_strconv_uint64pow10)] }
def PermPowersSaid : Prop := permPowersRow.holds Tryd.pinned (OpenSpec.ofChange permPowersSpec)

/-- ITS FALSE NEIGHBOUR: 'it returns false'. Refute it at one input. -/
def permPowersWrong : ChangeSpec := { name := "permPowers", fn := fun _ => fun
  | [d1, d2, d3] => { results := [.lit (.bool false)], args := [d1, d2, d3] }
  | _ => none }
def PermPowersWrongFalsely : Prop := permPowersRow.holds Tryd.pinned (OpenSpec.ofChange permPowersWrong)

/-- 'galoislaw22.PermCycles': WHATEVER THE INPUT: true; the input reads as it did. -/
def permCyclesSpec : ChangeSpec := { name := "permCycles", fn := fun _ => fun
  | [d1, d2] => { results := [.lit (.bool true)], args := [d1, d2] }
  | _ => none }
def permCyclesRow : OpenClaim := { program := "ytoaalfpfklchfaadoor", sum := "a9a208dd8e6e194e38fcf2e6d718eb8346674a2c04e4b5b1f4790ea05d5e52fb", func := "galois/galoislaw22.PermCycles", spec := "permCycles", named := ["internal/strconv.uint64pow10", "math/bits.deBruijn32tab", "math/bits.deBruijn64tab"], apart := false, laid := [("math/bits.deBruijn32tab", laid_math_bits_deBruijn32tab), ("math/bits.deBruijn64tab", laid_math_bits_deBruijn64tab), ("internal/strconv.uint64pow10", laid_internal_strconv_uint64pow10)] }
def PermCyclesSaid : Prop := permCyclesRow.holds Tryd.pinned (OpenSpec.ofChange permCyclesSpec)

/-- ITS FALSE NEIGHBOUR: 'it returns false'. Refute it at one input. -/
def permCyclesWrong : ChangeSpec := { name := "permCycles", fn := fun _ => fun
  | [d1, d2] => { results := [.lit (.bool false)], args := [d1, d2] }
  | _ => none }
def PermCyclesWrongFalsely : Prop := permCyclesRow.holds Tryd.pinned (OpenSpec.ofChange permCyclesWrong)

/-- 'galoislaw22.PermRanks': WHATEVER THE INPUT: true; the input reads as it did. -/
def permRanksSpec : ChangeSpec := { name := "permRanks", fn := fun _ => fun
  | [d1, d2] => { results := [.lit (.bool true)], args := [d1, d2] }
  | _ => none }
def permRanksRow : OpenClaim := { program := "ytoaalfpfklchfaadoor", sum := "a9a208dd8e6e194e38fcf2e6d718eb8346674a2c04e4b5b1f4790ea05d5e52fb", func := "galois/galoislaw22.PermRanks", spec := "permRanks", named := ["internal/strconv.uint64pow10", "math/bits.deBruijn32tab", "math/bits.deBruijn64tab"], apart := false, laid := [("math/bits.deBruijn32tab", laid_math_bits_deBruijn32tab), ("math/bits.deBruijn64tab", laid_math_bits_deBruijn64tab), ("internal/strconv.uint64pow10", laid_internal_strconv_uint64pow10)] }
def PermRanksSaid : Prop := permRanksRow.holds Tryd.pinned (OpenSpec.ofChange permRanksSpec)

/-- ITS FALSE NEIGHBOUR: 'it returns false'. Refute it at one input. -/
def permRanksWrong : ChangeSpec := { name := "permRanks", fn := fun _ => fun
  | [d1, d2] => { results := [.lit (.bool false)], args := [d1, d2] }
  | _ => none }
def PermRanksWrongFalsely : Prop := permRanksRow.holds Tryd.pinned (OpenSpec.ofChange permRanksWrong)

/-- 'galoislaw22.PermProducts': WHATEVER THE INPUT: true; the input reads as it did. -/
def permProductsSpec : ChangeSpec := { name := "permProducts", fn := fun _ => fun
  | [d1, d2, d3] => { results := [.lit (.bool true)], args := [d1, d2, d3] }
  | _ => none }
def permProductsRow : OpenClaim := { program := "ytoaalfpfklchfaadoor", sum := "a9a208dd8e6e194e38fcf2e6d718eb8346674a2c04e4b5b1f4790ea05d5e52fb", func := "galois/galoislaw22.PermProducts", spec := "permProducts", named := ["internal/strconv.uint64pow10", "math/bits.deBruijn32tab", "math/bits.deBruijn64tab"], apart := false, laid := [("math/bits.deBruijn32tab", laid_math_bits_deBruijn32tab), ("math/bits.deBruijn64tab", laid_math_bits_deBruijn64tab), ("internal/strconv.uint64pow10", laid_internal_strconv_uint64pow10)] }
def PermProductsSaid : Prop := permProductsRow.holds Tryd.pinned (OpenSpec.ofChange permProductsSpec)

/-- ITS FALSE NEIGHBOUR: 'it returns false'. Refute it at one input. -/
def permProductsWrong : ChangeSpec := { name := "permProducts", fn := fun _ => fun
  | [d1, d2, d3] => { results := [.lit (.bool false)], args := [d1, d2, d3] }
  | _ => none }
def PermProductsWrongFalsely : Prop := permProductsRow.holds Tryd.pinned (OpenSpec.ofChange permProductsWrong)

/-- 'galoislaw22.PermSplits': WHATEVER THE INPUT: true; the input reads as it did. -/
def permSplitsSpec : ChangeSpec := { name := "permSplits", fn := fun _ => fun
  | [d1, d2] => { results := [.lit (.bool true)], args := [d1, d2] }
  | _ => none }
def permSplitsRow : OpenClaim := { program := "ytoaalfpfklchfaadoor", sum := "a9a208dd8e6e194e38fcf2e6d718eb8346674a2c04e4b5b1f4790ea05d5e52fb", func := "galois/galoislaw22.PermSplits", spec := "permSplits", unfollowed := true, recurses := true, named := ["internal/strconv.uint64pow10", "math/bits.deBruijn32tab", "math/bits.deBruijn64tab"], apart := false, laid := [("math/bits.deBruijn32tab", laid_math_bits_deBruijn32tab), ("math/bits.deBruijn64tab", laid_math_bits_deBruijn64tab), ("internal/strconv.uint64pow10", laid_internal_strconv_uint64pow10)] }
def PermSplitsSaid : Prop := permSplitsRow.holds Tryd.pinned (OpenSpec.ofChange permSplitsSpec)

/-- ITS FALSE NEIGHBOUR: 'it returns false'. Refute it at one input. -/
def permSplitsWrong : ChangeSpec := { name := "permSplits", fn := fun _ => fun
  | [d1, d2] => { results := [.lit (.bool false)], args := [d1, d2] }
  | _ => none }
def PermSplitsWrongFalsely : Prop := permSplitsRow.holds Tryd.pinned (OpenSpec.ofChange permSplitsWrong)

/-- 'galoislaw22.PermTexts': WHATEVER THE INPUT: true; the input reads as it did. -/
def permTextsSpec : ChangeSpec := { name := "permTexts", fn := fun _ => fun
  | [d1, d2, d3] => { results := [.lit (.bool true)], args := [d1, d2, d3] }
  | _ => none }
def permTextsRow : OpenClaim := { program := "ytoaalfpfklchfaadoor", sum := "a9a208dd8e6e194e38fcf2e6d718eb8346674a2c04e4b5b1f4790ea05d5e52fb", func := "galois/galoislaw22.PermTexts", spec := "permTexts", recurses := true, named := ["internal/strconv.uint64pow10", "math/bits.deBruijn32tab", "math/bits.deBruijn64tab", "strconv.ErrSyntax", "strconv.ErrRange"], apart := false, laid := [("math/bits.deBruijn32tab", laid_math_bits_deBruijn32tab), ("math/bits.deBruijn64tab", laid_math_bits_deBruijn64tab), ("internal/strconv.uint64pow10", laid_internal_strconv_uint64pow10), ("strconv.ErrRange", laid_strconv_ErrRange), ("strconv.ErrSyntax", laid_strconv_ErrSyntax)] }
def PermTextsSaid : Prop := permTextsRow.holds Tryd.pinned (OpenSpec.ofChange permTextsSpec)

/-- ITS FALSE NEIGHBOUR: 'it returns false'. Refute it at one input. -/
def permTextsWrong : ChangeSpec := { name := "permTexts", fn := fun _ => fun
  | [d1, d2, d3] => { results := [.lit (.bool false)], args := [d1, d2, d3] }
  | _ => none }
def PermTextsWrongFalsely : Prop := permTextsRow.holds Tryd.pinned (OpenSpec.ofChange permTextsWrong)

/-- 'galoislaw22.PermGroup': WHATEVER THE INPUT: true; the input reads as it did. -/
def permGroupSpec : ChangeSpec := { name := "permGroup", fn := fun _ => fun
  | [d1, d2, d3] => { results := [.lit (.bool true)], args := [d1, d2, d3] }
  | _ => none }
def permGroupRow : OpenClaim := { program := "ytoaalfpfklchfaadoor", sum := "a9a208dd8e6e194e38fcf2e6d718eb8346674a2c04e4b5b1f4790ea05d5e52fb", func := "galois/galoislaw22.PermGroup", spec := "permGroup", unfollowed := true, recurses := true, named := ["internal/strconv.uint64pow10", "math/bits.deBruijn32tab", "math/bits.deBruijn64tab"], apart := false, laid := [("math/bits.deBruijn32tab", laid_math_bits_deBruijn32tab), ("math/bits.deBruijn64tab", laid_math_bits_deBruijn64tab), ("internal/strconv.uint64pow10", laid_internal_strconv_uint64pow10)] }
def PermGroupSaid : Prop := permGroupRow.holds Tryd.pinned (OpenSpec.ofChange permGroupSpec)

/-- ITS FALSE NEIGHBOUR: 'it returns false'. Refute it at one input. -/
def permGroupWrong : ChangeSpec := { name := "permGroup", fn := fun _ => fun
  | [d1, d2, d3] => { results := [.lit (.bool false)], args := [d1, d2, d3] }
  | _ => none }
def PermGroupWrongFalsely : Prop := permGroupRow.holds Tryd.pinned (OpenSpec.ofChange permGroupWrong)

/-- 'galoislaw22.PermForms': WHATEVER THE INPUT: true; the input reads as it did. -/
def permFormsSpec : ChangeSpec := { name := "permForms", fn := fun _ => fun
  | [d] => { results := [.lit (.bool true)], args := [d] }
  | _ => none }
def permFormsRow : OpenClaim := { program := "ytoaalfpfklchfaadoor", sum := "a9a208dd8e6e194e38fcf2e6d718eb8346674a2c04e4b5b1f4790ea05d5e52fb", func := "galois/galoislaw22.PermForms", spec := "permForms", unfollowed := true, recurses := true, named := ["internal/strconv.uint64pow10", "math/bits.deBruijn32tab", "math/bits.deBruijn64tab"], apart := false, laid := [("math/bits.deBruijn32tab", laid_math_bits_deBruijn32tab), ("math/bits.deBruijn64tab", laid_math_bits_deBruijn64tab), ("internal/strconv.uint64pow10", laid_internal_strconv_uint64pow10)] }
def PermFormsSaid : Prop := permFormsRow.holds Tryd.pinned (OpenSpec.ofChange permFormsSpec)

/-- ITS FALSE NEIGHBOUR: 'it returns false'. Refute it at one input. -/
def permFormsWrong : ChangeSpec := { name := "permForms", fn := fun _ => fun
  | [d] => { results := [.lit (.bool false)], args := [d] }
  | _ => none }
def PermFormsWrongFalsely : Prop := permFormsRow.holds Tryd.pinned (OpenSpec.ofChange permFormsWrong)

/-- 'galoislaw22.PermBack': WHATEVER THE INPUT: true; the input reads as it did. -/
def permBackSpec : ChangeSpec := { name := "permBack", fn := fun _ => fun
  | [d1, d2] => { results := [.lit (.bool true)], args := [d1, d2] }
  | _ => none }
def permBackRow : OpenClaim := { program := "ytoaalfpfklchfaadoor", sum := "a9a208dd8e6e194e38fcf2e6d718eb8346674a2c04e4b5b1f4790ea05d5e52fb", func := "galois/galoislaw22.PermBack", spec := "permBack", named := ["internal/strconv.uint64pow10", "math/bits.deBruijn32tab", "math/bits.deBruijn64tab", "strconv.ErrSyntax", "strconv.ErrRange"], apart := false, laid := [("math/bits.deBruijn32tab", laid_math_bits_deBruijn32tab), ("math/bits.deBruijn64tab", laid_math_bits_deBruijn64tab), ("internal/strconv.uint64pow10", laid_internal_strconv_uint64pow10), ("strconv.ErrRange", laid_strconv_ErrRange), ("strconv.ErrSyntax", laid_strconv_ErrSyntax)] }
def PermBackSaid : Prop := permBackRow.holds Tryd.pinned (OpenSpec.ofChange permBackSpec)

/-- ITS FALSE NEIGHBOUR: 'it returns false'. Refute it at one input. -/
def permBackWrong : ChangeSpec := { name := "permBack", fn := fun _ => fun
  | [d1, d2] => { results := [.lit (.bool false)], args := [d1, d2] }
  | _ => none }
def PermBackWrongFalsely : Prop := permBackRow.holds Tryd.pinned (OpenSpec.ofChange permBackWrong)

/- THE SECOND FORM. 'bulk': how many values and letters a reading holds, each counted each time it is reached (what is shared counts as often as it is met; a slice's spare places count too). A statement '..UptoSaid' is the law's where the arguments, and the package variables that the reading takes, are together of bulk at most 1048576: NARROWER than '..Said'. Prove '..Said' where nothing that the law and all that it calls make is longer than what came in: it says more and counts as full. Else prove '..UptoSaid'. A law counts once. -/
mutual
def uptoBulk {H : Type} : DataW H → Nat
  | .lit (.string bytes) => bytes.length + 1
  | .lit _ => 1
  | .nil => 1
  | .ptr d => uptoBulk d + 1
  | .slice elems spare => uptoBulkAll elems + uptoBulkAll spare + 1
  | .agg parts => uptoBulkAll parts + 1
  | .iface _ d => uptoBulk d + 1
  | .map entries => uptoBulkEntries entries + 1
  | .held _ => 1
def uptoBulkAll {H : Type} : List (DataW H) → Nat
  | [] => 0
  | d :: r => uptoBulk d + uptoBulkAll r
def uptoBulkEntries {H : Type} : List (Lit × DataW H) → Nat
  | [] => 0
  | x :: r => uptoBulkEntry x + uptoBulkEntries r
def uptoBulkEntry {H : Type} : Lit × DataW H → Nat
  | (.string bytes, d) => bytes.length + uptoBulk d + 1
  | (_, d) => uptoBulk d + 1
 end
def uptoSmall : (H : Type) → List (DataW H) → Bool := fun _ ds => decide (uptoBulkAll ds ≤ 1048576)
def OpenSpec.upto (s : _root_.Go.ChangeSpec) : _root_.Go.OpenSpec := { _root_.Go.OpenSpec.ofChange s with cond := some uptoSmall }

/-- 'galoislaw22.PermPowers', WHERE WHAT IT READS IS OF BULK AT MOST 1048576: true; the input reads as it did. -/
def permPowersUptoRow : OpenClaim := { program := "ytoaalfpfklchfaadoor", sum := "a9a208dd8e6e194e38fcf2e6d718eb8346674a2c04e4b5b1f4790ea05d5e52fb", func := "galois/galoislaw22.PermPowers", spec := "permPowers", named := ["internal/strconv.uint64pow10", "math/bits.deBruijn32tab", "math/bits.deBruijn64tab"], apart := false, laid := [("math/bits.deBruijn32tab", laid_math_bits_deBruijn32tab), ("math/bits.deBruijn64tab", laid_math_bits_deBruijn64tab), ("internal/strconv.uint64pow10", laid_internal_strconv_uint64pow10)], narrowed := true }
def PermPowersUptoSaid : Prop := permPowersUptoRow.holds Tryd.pinned (OpenSpec.upto permPowersSpec)

/-- 'galoislaw22.PermCycles', WHERE WHAT IT READS IS OF BULK AT MOST 1048576: true; the input reads as it did. -/
def permCyclesUptoRow : OpenClaim := { program := "ytoaalfpfklchfaadoor", sum := "a9a208dd8e6e194e38fcf2e6d718eb8346674a2c04e4b5b1f4790ea05d5e52fb", func := "galois/galoislaw22.PermCycles", spec := "permCycles", named := ["internal/strconv.uint64pow10", "math/bits.deBruijn32tab", "math/bits.deBruijn64tab"], apart := false, laid := [("math/bits.deBruijn32tab", laid_math_bits_deBruijn32tab), ("math/bits.deBruijn64tab", laid_math_bits_deBruijn64tab), ("internal/strconv.uint64pow10", laid_internal_strconv_uint64pow10)], narrowed := true }
def PermCyclesUptoSaid : Prop := permCyclesUptoRow.holds Tryd.pinned (OpenSpec.upto permCyclesSpec)

/-- 'galoislaw22.PermRanks', WHERE WHAT IT READS IS OF BULK AT MOST 1048576: true; the input reads as it did. -/
def permRanksUptoRow : OpenClaim := { program := "ytoaalfpfklchfaadoor", sum := "a9a208dd8e6e194e38fcf2e6d718eb8346674a2c04e4b5b1f4790ea05d5e52fb", func := "galois/galoislaw22.PermRanks", spec := "permRanks", named := ["internal/strconv.uint64pow10", "math/bits.deBruijn32tab", "math/bits.deBruijn64tab"], apart := false, laid := [("math/bits.deBruijn32tab", laid_math_bits_deBruijn32tab), ("math/bits.deBruijn64tab", laid_math_bits_deBruijn64tab), ("internal/strconv.uint64pow10", laid_internal_strconv_uint64pow10)], narrowed := true }
def PermRanksUptoSaid : Prop := permRanksUptoRow.holds Tryd.pinned (OpenSpec.upto permRanksSpec)

/-- 'galoislaw22.PermProducts', WHERE WHAT IT READS IS OF BULK AT MOST 1048576: true; the input reads as it did. -/
def permProductsUptoRow : OpenClaim := { program := "ytoaalfpfklchfaadoor", sum := "a9a208dd8e6e194e38fcf2e6d718eb8346674a2c04e4b5b1f4790ea05d5e52fb", func := "galois/galoislaw22.PermProducts", spec := "permProducts", named := ["internal/strconv.uint64pow10", "math/bits.deBruijn32tab", "math/bits.deBruijn64tab"], apart := false, laid := [("math/bits.deBruijn32tab", laid_math_bits_deBruijn32tab), ("math/bits.deBruijn64tab", laid_math_bits_deBruijn64tab), ("internal/strconv.uint64pow10", laid_internal_strconv_uint64pow10)], narrowed := true }
def PermProductsUptoSaid : Prop := permProductsUptoRow.holds Tryd.pinned (OpenSpec.upto permProductsSpec)

/-- 'galoislaw22.PermSplits', WHERE WHAT IT READS IS OF BULK AT MOST 1048576: true; the input reads as it did. -/
def permSplitsUptoRow : OpenClaim := { program := "ytoaalfpfklchfaadoor", sum := "a9a208dd8e6e194e38fcf2e6d718eb8346674a2c04e4b5b1f4790ea05d5e52fb", func := "galois/galoislaw22.PermSplits", spec := "permSplits", unfollowed := true, recurses := true, named := ["internal/strconv.uint64pow10", "math/bits.deBruijn32tab", "math/bits.deBruijn64tab"], apart := false, laid := [("math/bits.deBruijn32tab", laid_math_bits_deBruijn32tab), ("math/bits.deBruijn64tab", laid_math_bits_deBruijn64tab), ("internal/strconv.uint64pow10", laid_internal_strconv_uint64pow10)], narrowed := true }
def PermSplitsUptoSaid : Prop := permSplitsUptoRow.holds Tryd.pinned (OpenSpec.upto permSplitsSpec)

/-- 'galoislaw22.PermTexts', WHERE WHAT IT READS IS OF BULK AT MOST 1048576: true; the input reads as it did. -/
def permTextsUptoRow : OpenClaim := { program := "ytoaalfpfklchfaadoor", sum := "a9a208dd8e6e194e38fcf2e6d718eb8346674a2c04e4b5b1f4790ea05d5e52fb", func := "galois/galoislaw22.PermTexts", spec := "permTexts", recurses := true, named := ["internal/strconv.uint64pow10", "math/bits.deBruijn32tab", "math/bits.deBruijn64tab", "strconv.ErrSyntax", "strconv.ErrRange"], apart := false, laid := [("math/bits.deBruijn32tab", laid_math_bits_deBruijn32tab), ("math/bits.deBruijn64tab", laid_math_bits_deBruijn64tab), ("internal/strconv.uint64pow10", laid_internal_strconv_uint64pow10), ("strconv.ErrRange", laid_strconv_ErrRange), ("strconv.ErrSyntax", laid_strconv_ErrSyntax)], narrowed := true }
def PermTextsUptoSaid : Prop := permTextsUptoRow.holds Tryd.pinned (OpenSpec.upto permTextsSpec)

/-- 'galoislaw22.PermGroup', WHERE WHAT IT READS IS OF BULK AT MOST 1048576: true; the input reads as it did. -/
def permGroupUptoRow : OpenClaim := { program := "ytoaalfpfklchfaadoor", sum := "a9a208dd8e6e194e38fcf2e6d718eb8346674a2c04e4b5b1f4790ea05d5e52fb", func := "galois/galoislaw22.PermGroup", spec := "permGroup", unfollowed := true, recurses := true, named := ["internal/strconv.uint64pow10", "math/bits.deBruijn32tab", "math/bits.deBruijn64tab"], apart := false, laid := [("math/bits.deBruijn32tab", laid_math_bits_deBruijn32tab), ("math/bits.deBruijn64tab", laid_math_bits_deBruijn64tab), ("internal/strconv.uint64pow10", laid_internal_strconv_uint64pow10)], narrowed := true }
def PermGroupUptoSaid : Prop := permGroupUptoRow.holds Tryd.pinned (OpenSpec.upto permGroupSpec)

/-- 'galoislaw22.PermForms', WHERE WHAT IT READS IS OF BULK AT MOST 1048576: true; the input reads as it did. -/
def permFormsUptoRow : OpenClaim := { program := "ytoaalfpfklchfaadoor", sum := "a9a208dd8e6e194e38fcf2e6d718eb8346674a2c04e4b5b1f4790ea05d5e52fb", func := "galois/galoislaw22.PermForms", spec := "permForms", unfollowed := true, recurses := true, named := ["internal/strconv.uint64pow10", "math/bits.deBruijn32tab", "math/bits.deBruijn64tab"], apart := false, laid := [("math/bits.deBruijn32tab", laid_math_bits_deBruijn32tab), ("math/bits.deBruijn64tab", laid_math_bits_deBruijn64tab), ("internal/strconv.uint64pow10", laid_internal_strconv_uint64pow10)], narrowed := true }
def PermFormsUptoSaid : Prop := permFormsUptoRow.holds Tryd.pinned (OpenSpec.upto permFormsSpec)

/-- 'galoislaw22.PermBack', WHERE WHAT IT READS IS OF BULK AT MOST 1048576: true; the input reads as it did. -/
def permBackUptoRow : OpenClaim := { program := "ytoaalfpfklchfaadoor", sum := "a9a208dd8e6e194e38fcf2e6d718eb8346674a2c04e4b5b1f4790ea05d5e52fb", func := "galois/galoislaw22.PermBack", spec := "permBack", named := ["internal/strconv.uint64pow10", "math/bits.deBruijn32tab", "math/bits.deBruijn64tab", "strconv.ErrSyntax", "strconv.ErrRange"], apart := false, laid := [("math/bits.deBruijn32tab", laid_math_bits_deBruijn32tab), ("math/bits.deBruijn64tab", laid_math_bits_deBruijn64tab), ("internal/strconv.uint64pow10", laid_internal_strconv_uint64pow10), ("strconv.ErrRange", laid_strconv_ErrRange), ("strconv.ErrSyntax", laid_strconv_ErrSyntax)], narrowed := true }
def PermBackUptoSaid : Prop := permBackUptoRow.holds Tryd.pinned (OpenSpec.upto permBackSpec)

end Rows
end Go.Proofs.YtoaalfpfklchfaaDoor
