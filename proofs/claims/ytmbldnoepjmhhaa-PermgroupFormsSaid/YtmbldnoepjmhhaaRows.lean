/-
  No cell of these rows narrows 'for every input' (looked for: loops, veiled, ifaces, maps, wideKeys, modest, calm, conditions, laid).
  DERIVED. THE GIVEN ROWS OF THIS SEAT. 6 by the template 'for every input the law returns true; each argument reads behind the call as it read before'; 0 by the template 'total and deterministic' (their statements: YtmbldnoepjmhhaaTotals.lean).
  GIVEN WITH THE SEED: the statements are not yours to turn. If you find one false, say at which input.
  Laid BY PROGRAM, IN A SANDBOX (cutbox-rows.mjs): the forced cells as the released guide's own fill.sh prints them over the translation ed17ffc25f951b75… (all of the seat's roots in one cut). By AI agents, Wed Nov 11 2026. No macro, syntax, notation, axiom, sorry.
-/
import Derived.Test.YtmbldnoepjmhhaaChecked
import GoSem.Claim
import GoSem.ClaimJoined
import GoSem.ClaimMapViews
import Derived.JoinedTies
import Derived.KernelRfl
namespace Go.Proofs.Ytmbldnoepjmhhaa
/- THE CELL 'sum', in the pinned program and in every row, IS THE sha256 OF THE DUMP (.gsa) THAT YtmbldnoepjmhhaaProg.lean LOADS. Nothing in Lean hashes anything: it is a label: what it is worth is what the hold of that sum in a sandbox is worth. -/
noncomputable def Try.pinned : Pinned := { name := "ytmbldnoepjmhhaa", sum := "ed17ffc25f951b75d6a681f76c0e881d0ac6013374e1e7595e16f0c4ab6240d0", checked := Try.checked }
namespace Rows
def none {H : Type} : Left H := { results := [], args := [] }

/-- 'galoislaw27.CosetIsomorphisms': WHATEVER THE INPUT: true; the input reads as it did. -/
def cosetIsomorphismsSpec : ChangeSpec := { name := "cosetIsomorphisms", fn := fun _ => fun
  | [d1, d2] => { results := [.lit (.bool true)], args := [d1, d2] }
  | _ => none }
def cosetIsomorphismsRow : OpenClaim := { program := "ytmbldnoepjmhhaa", sum := "ed17ffc25f951b75d6a681f76c0e881d0ac6013374e1e7595e16f0c4ab6240d0", func := "galois/galoislaw27.CosetIsomorphisms", spec := "cosetIsomorphisms", unfollowed := true, recurses := true, apart := false }
def CosetIsomorphismsSaid : Prop := cosetIsomorphismsRow.holds Try.pinned (OpenSpec.ofChange cosetIsomorphismsSpec)

/-- ITS FALSE NEIGHBOUR: 'it returns false'. Refute it at one input. -/
def cosetIsomorphismsWrong : ChangeSpec := { name := "cosetIsomorphisms", fn := fun _ => fun
  | [d1, d2] => { results := [.lit (.bool false)], args := [d1, d2] }
  | _ => none }
def CosetIsomorphismsWrongFalsely : Prop := cosetIsomorphismsRow.holds Try.pinned (OpenSpec.ofChange cosetIsomorphismsWrong)

/-- 'galoislaw27.CosetQuotients': WHATEVER THE INPUT: true; the input reads as it did. -/
def cosetQuotientsSpec : ChangeSpec := { name := "cosetQuotients", fn := fun _ => fun
  | [d1, d2] => { results := [.lit (.bool true)], args := [d1, d2] }
  | _ => none }
def cosetQuotientsRow : OpenClaim := { program := "ytmbldnoepjmhhaa", sum := "ed17ffc25f951b75d6a681f76c0e881d0ac6013374e1e7595e16f0c4ab6240d0", func := "galois/galoislaw27.CosetQuotients", spec := "cosetQuotients", unfollowed := true, recurses := true, apart := false }
def CosetQuotientsSaid : Prop := cosetQuotientsRow.holds Try.pinned (OpenSpec.ofChange cosetQuotientsSpec)

/-- ITS FALSE NEIGHBOUR: 'it returns false'. Refute it at one input. -/
def cosetQuotientsWrong : ChangeSpec := { name := "cosetQuotients", fn := fun _ => fun
  | [d1, d2] => { results := [.lit (.bool false)], args := [d1, d2] }
  | _ => none }
def CosetQuotientsWrongFalsely : Prop := cosetQuotientsRow.holds Try.pinned (OpenSpec.ofChange cosetQuotientsWrong)

/-- 'galoislaw23.PermgroupForms': WHATEVER THE INPUT: true; the input reads as it did. -/
def permgroupFormsSpec : ChangeSpec := { name := "permgroupForms", fn := fun _ => fun
  | [d] => { results := [.lit (.bool true)], args := [d] }
  | _ => none }
def permgroupFormsRow : OpenClaim := { program := "ytmbldnoepjmhhaa", sum := "ed17ffc25f951b75d6a681f76c0e881d0ac6013374e1e7595e16f0c4ab6240d0", func := "galois/galoislaw23.PermgroupForms", spec := "permgroupForms", unfollowed := true, recurses := true, apart := false }
def PermgroupFormsSaid : Prop := permgroupFormsRow.holds Try.pinned (OpenSpec.ofChange permgroupFormsSpec)

/-- ITS FALSE NEIGHBOUR: 'it returns false'. Refute it at one input. -/
def permgroupFormsWrong : ChangeSpec := { name := "permgroupForms", fn := fun _ => fun
  | [d] => { results := [.lit (.bool false)], args := [d] }
  | _ => none }
def PermgroupFormsWrongFalsely : Prop := permgroupFormsRow.holds Try.pinned (OpenSpec.ofChange permgroupFormsWrong)

/-- 'galoislaw23.PermgroupChains': WHATEVER THE INPUT: true; the input reads as it did. -/
def permgroupChainsSpec : ChangeSpec := { name := "permgroupChains", fn := fun _ => fun
  | [d1, d2, d3] => { results := [.lit (.bool true)], args := [d1, d2, d3] }
  | _ => none }
def permgroupChainsRow : OpenClaim := { program := "ytmbldnoepjmhhaa", sum := "ed17ffc25f951b75d6a681f76c0e881d0ac6013374e1e7595e16f0c4ab6240d0", func := "galois/galoislaw23.PermgroupChains", spec := "permgroupChains", unfollowed := true, recurses := true, apart := false }
def PermgroupChainsSaid : Prop := permgroupChainsRow.holds Try.pinned (OpenSpec.ofChange permgroupChainsSpec)

/-- ITS FALSE NEIGHBOUR: 'it returns false'. Refute it at one input. -/
def permgroupChainsWrong : ChangeSpec := { name := "permgroupChains", fn := fun _ => fun
  | [d1, d2, d3] => { results := [.lit (.bool false)], args := [d1, d2, d3] }
  | _ => none }
def PermgroupChainsWrongFalsely : Prop := permgroupChainsRow.holds Try.pinned (OpenSpec.ofChange permgroupChainsWrong)

/-- 'galoislaw23.PermgroupNamed': WHATEVER THE INPUT: true; the input reads as it did. -/
def permgroupNamedSpec : ChangeSpec := { name := "permgroupNamed", fn := fun _ => fun
  | [d] => { results := [.lit (.bool true)], args := [d] }
  | _ => none }
def permgroupNamedRow : OpenClaim := { program := "ytmbldnoepjmhhaa", sum := "ed17ffc25f951b75d6a681f76c0e881d0ac6013374e1e7595e16f0c4ab6240d0", func := "galois/galoislaw23.PermgroupNamed", spec := "permgroupNamed", unfollowed := true, recurses := true, apart := false }
def PermgroupNamedSaid : Prop := permgroupNamedRow.holds Try.pinned (OpenSpec.ofChange permgroupNamedSpec)

/-- ITS FALSE NEIGHBOUR: 'it returns false'. Refute it at one input. -/
def permgroupNamedWrong : ChangeSpec := { name := "permgroupNamed", fn := fun _ => fun
  | [d] => { results := [.lit (.bool false)], args := [d] }
  | _ => none }
def PermgroupNamedWrongFalsely : Prop := permgroupNamedRow.holds Try.pinned (OpenSpec.ofChange permgroupNamedWrong)

/-- 'galoislaw23.PermgroupCounts': WHATEVER THE INPUT: true; the input reads as it did. -/
def permgroupCountsSpec : ChangeSpec := { name := "permgroupCounts", fn := fun _ => fun
  | [d1, d2, d3] => { results := [.lit (.bool true)], args := [d1, d2, d3] }
  | _ => none }
def permgroupCountsRow : OpenClaim := { program := "ytmbldnoepjmhhaa", sum := "ed17ffc25f951b75d6a681f76c0e881d0ac6013374e1e7595e16f0c4ab6240d0", func := "galois/galoislaw23.PermgroupCounts", spec := "permgroupCounts", unfollowed := true, recurses := true, apart := false }
def PermgroupCountsSaid : Prop := permgroupCountsRow.holds Try.pinned (OpenSpec.ofChange permgroupCountsSpec)

/-- ITS FALSE NEIGHBOUR: 'it returns false'. Refute it at one input. -/
def permgroupCountsWrong : ChangeSpec := { name := "permgroupCounts", fn := fun _ => fun
  | [d1, d2, d3] => { results := [.lit (.bool false)], args := [d1, d2, d3] }
  | _ => none }
def PermgroupCountsWrongFalsely : Prop := permgroupCountsRow.holds Try.pinned (OpenSpec.ofChange permgroupCountsWrong)

/- THE SECOND FORM. 'bulk': how many values and letters a reading holds, each counted each time it is reached (what is shared counts as often as it is met; a slice's spare places count too). A statement '..UptoSaid' is the law's where the arguments, and the package variables that the reading takes, are together of bulk at most 1048576: NARROWER than '..Said'. Prove '..Said' where nothing that the law and all that it calls make is longer than what came in: it says more and counts as full. Else prove '..UptoSaid'. A law counts once. -/
mutual
def uptoBulk {H : Type} : DataW H → Nat
  | .lit (.string bytes) => bytes.length + 1
  | .lit _ => 1
  | .nil => 1
  | .ptr d => uptoBulk d + 1
  | .slice elems spare => uptoBulkAll elems + uptoBulkAll spare + 1
  | .agg parts => uptoBulkAll parts + 1
  | .iface _ d => uptoBulk d + 1
  | .map entries => uptoBulkEntries entries + 1
  | .held _ => 1
def uptoBulkAll {H : Type} : List (DataW H) → Nat
  | [] => 0
  | d :: r => uptoBulk d + uptoBulkAll r
def uptoBulkEntries {H : Type} : List (Lit × DataW H) → Nat
  | [] => 0
  | x :: r => uptoBulkEntry x + uptoBulkEntries r
def uptoBulkEntry {H : Type} : Lit × DataW H → Nat
  | (.string bytes, d) => bytes.length + uptoBulk d + 1
  | (_, d) => uptoBulk d + 1
 end
def uptoSmall : (H : Type) → List (DataW H) → Bool := fun _ ds => decide (uptoBulkAll ds ≤ 1048576)
def OpenSpec.upto (s : _root_.Go.ChangeSpec) : _root_.Go.OpenSpec := { _root_.Go.OpenSpec.ofChange s with cond := some uptoSmall }

/-- 'galoislaw27.CosetIsomorphisms', WHERE WHAT IT READS IS OF BULK AT MOST 1048576: true; the input reads as it did. -/
def cosetIsomorphismsUptoRow : OpenClaim := { program := "ytmbldnoepjmhhaa", sum := "ed17ffc25f951b75d6a681f76c0e881d0ac6013374e1e7595e16f0c4ab6240d0", func := "galois/galoislaw27.CosetIsomorphisms", spec := "cosetIsomorphisms", unfollowed := true, recurses := true, apart := false, narrowed := true }
def CosetIsomorphismsUptoSaid : Prop := cosetIsomorphismsUptoRow.holds Try.pinned (OpenSpec.upto cosetIsomorphismsSpec)

/-- 'galoislaw27.CosetQuotients', WHERE WHAT IT READS IS OF BULK AT MOST 1048576: true; the input reads as it did. -/
def cosetQuotientsUptoRow : OpenClaim := { program := "ytmbldnoepjmhhaa", sum := "ed17ffc25f951b75d6a681f76c0e881d0ac6013374e1e7595e16f0c4ab6240d0", func := "galois/galoislaw27.CosetQuotients", spec := "cosetQuotients", unfollowed := true, recurses := true, apart := false, narrowed := true }
def CosetQuotientsUptoSaid : Prop := cosetQuotientsUptoRow.holds Try.pinned (OpenSpec.upto cosetQuotientsSpec)

/-- 'galoislaw23.PermgroupForms', WHERE WHAT IT READS IS OF BULK AT MOST 1048576: true; the input reads as it did. -/
def permgroupFormsUptoRow : OpenClaim := { program := "ytmbldnoepjmhhaa", sum := "ed17ffc25f951b75d6a681f76c0e881d0ac6013374e1e7595e16f0c4ab6240d0", func := "galois/galoislaw23.PermgroupForms", spec := "permgroupForms", unfollowed := true, recurses := true, apart := false, narrowed := true }
def PermgroupFormsUptoSaid : Prop := permgroupFormsUptoRow.holds Try.pinned (OpenSpec.upto permgroupFormsSpec)

/-- 'galoislaw23.PermgroupChains', WHERE WHAT IT READS IS OF BULK AT MOST 1048576: true; the input reads as it did. -/
def permgroupChainsUptoRow : OpenClaim := { program := "ytmbldnoepjmhhaa", sum := "ed17ffc25f951b75d6a681f76c0e881d0ac6013374e1e7595e16f0c4ab6240d0", func := "galois/galoislaw23.PermgroupChains", spec := "permgroupChains", unfollowed := true, recurses := true, apart := false, narrowed := true }
def PermgroupChainsUptoSaid : Prop := permgroupChainsUptoRow.holds Try.pinned (OpenSpec.upto permgroupChainsSpec)

/-- 'galoislaw23.PermgroupNamed', WHERE WHAT IT READS IS OF BULK AT MOST 1048576: true; the input reads as it did. -/
def permgroupNamedUptoRow : OpenClaim := { program := "ytmbldnoepjmhhaa", sum := "ed17ffc25f951b75d6a681f76c0e881d0ac6013374e1e7595e16f0c4ab6240d0", func := "galois/galoislaw23.PermgroupNamed", spec := "permgroupNamed", unfollowed := true, recurses := true, apart := false, narrowed := true }
def PermgroupNamedUptoSaid : Prop := permgroupNamedUptoRow.holds Try.pinned (OpenSpec.upto permgroupNamedSpec)

/-- 'galoislaw23.PermgroupCounts', WHERE WHAT IT READS IS OF BULK AT MOST 1048576: true; the input reads as it did. -/
def permgroupCountsUptoRow : OpenClaim := { program := "ytmbldnoepjmhhaa", sum := "ed17ffc25f951b75d6a681f76c0e881d0ac6013374e1e7595e16f0c4ab6240d0", func := "galois/galoislaw23.PermgroupCounts", spec := "permgroupCounts", unfollowed := true, recurses := true, apart := false, narrowed := true }
def PermgroupCountsUptoSaid : Prop := permgroupCountsUptoRow.holds Try.pinned (OpenSpec.upto permgroupCountsSpec)

end Rows
end Go.Proofs.Ytmbldnoepjmhhaa
