/-
  No cell of these rows narrows 'for every input' (looked for: loops, veiled, ifaces, maps, wideKeys, modest, calm, conditions, laid).
  DERIVED. THE GIVEN ROWS OF THIS SEAT. 7 by the template 'for every input the law returns true; each argument reads behind the call as it read before'; 0 by the template 'total and deterministic' (their statements: YtaaaljifclecnaaTotals.lean).
  GIVEN WITH THE SEED: the statements are not yours to turn. If you find one false, say at which input.
  Laid BY PROGRAM, IN A SANDBOX (cutbox-rows.mjs): the forced cells as the released guide's own fill.sh prints them over the translation e6ab75f27a940e20… (all of the seat's roots in one cut). By AI agents, Wed Nov 11 2026. No macro, syntax, notation, axiom, sorry.
-/
import Derived.Test.YtaaaljifclecnaaChecked
import GoSem.Claim
import GoSem.ClaimJoined
import GoSem.ClaimMapViews
import Derived.JoinedTies
import Derived.KernelRfl
namespace Go.Proofs.Ytaaaljifclecnaa
/- THE CELL 'sum', in the pinned program and in every row, IS THE sha256 OF THE DUMP (.gsa) THAT YtaaaljifclecnaaProg.lean LOADS. Nothing in Lean hashes anything: it is a label: what it is worth is what the hold of that sum in a sandbox is worth. -/
noncomputable def Try.pinned : Pinned := { name := "ytaaaljifclecnaa", sum := "e6ab75f27a940e20f4c50c490915ab6a97d1636799d02bcd34225b631b8f0f90", checked := Try.checked }
namespace Rows
def none {H : Type} : Left H := { results := [], args := [] }

/-- 'galoislaw27.CosetTables': WHATEVER THE INPUT: true; the input reads as it did. -/
def cosetTablesSpec : ChangeSpec := { name := "cosetTables", fn := fun _ => fun
  | [d1, d2] => { results := [.lit (.bool true)], args := [d1, d2] }
  | _ => none }
def cosetTablesRow : OpenClaim := { program := "ytaaaljifclecnaa", sum := "e6ab75f27a940e20f4c50c490915ab6a97d1636799d02bcd34225b631b8f0f90", func := "galois/galoislaw27.CosetTables", spec := "cosetTables", unfollowed := true, recurses := true, apart := false }
def CosetTablesSaid : Prop := cosetTablesRow.holds Try.pinned (OpenSpec.ofChange cosetTablesSpec)

/-- ITS FALSE NEIGHBOUR: 'it returns false'. Refute it at one input. -/
def cosetTablesWrong : ChangeSpec := { name := "cosetTables", fn := fun _ => fun
  | [d1, d2] => { results := [.lit (.bool false)], args := [d1, d2] }
  | _ => none }
def CosetTablesWrongFalsely : Prop := cosetTablesRow.holds Try.pinned (OpenSpec.ofChange cosetTablesWrong)

/-- 'galoislaw27.CosetForms': WHATEVER THE INPUT: true; the input reads as it did. -/
def cosetFormsSpec : ChangeSpec := { name := "cosetForms", fn := fun _ => fun
  | [d1, d2, d3] => { results := [.lit (.bool true)], args := [d1, d2, d3] }
  | _ => none }
def cosetFormsRow : OpenClaim := { program := "ytaaaljifclecnaa", sum := "e6ab75f27a940e20f4c50c490915ab6a97d1636799d02bcd34225b631b8f0f90", func := "galois/galoislaw27.CosetForms", spec := "cosetForms", unfollowed := true, recurses := true, apart := false }
def CosetFormsSaid : Prop := cosetFormsRow.holds Try.pinned (OpenSpec.ofChange cosetFormsSpec)

/-- ITS FALSE NEIGHBOUR: 'it returns false'. Refute it at one input. -/
def cosetFormsWrong : ChangeSpec := { name := "cosetForms", fn := fun _ => fun
  | [d1, d2, d3] => { results := [.lit (.bool false)], args := [d1, d2, d3] }
  | _ => none }
def CosetFormsWrongFalsely : Prop := cosetFormsRow.holds Try.pinned (OpenSpec.ofChange cosetFormsWrong)

/-- 'galoislaw27.CosetDoubles': WHATEVER THE INPUT: true; the input reads as it did. -/
def cosetDoublesSpec : ChangeSpec := { name := "cosetDoubles", fn := fun _ => fun
  | [d1, d2, d3] => { results := [.lit (.bool true)], args := [d1, d2, d3] }
  | _ => none }
def cosetDoublesRow : OpenClaim := { program := "ytaaaljifclecnaa", sum := "e6ab75f27a940e20f4c50c490915ab6a97d1636799d02bcd34225b631b8f0f90", func := "galois/galoislaw27.CosetDoubles", spec := "cosetDoubles", unfollowed := true, recurses := true, apart := false }
def CosetDoublesSaid : Prop := cosetDoublesRow.holds Try.pinned (OpenSpec.ofChange cosetDoublesSpec)

/-- ITS FALSE NEIGHBOUR: 'it returns false'. Refute it at one input. -/
def cosetDoublesWrong : ChangeSpec := { name := "cosetDoubles", fn := fun _ => fun
  | [d1, d2, d3] => { results := [.lit (.bool false)], args := [d1, d2, d3] }
  | _ => none }
def CosetDoublesWrongFalsely : Prop := cosetDoublesRow.holds Try.pinned (OpenSpec.ofChange cosetDoublesWrong)

/-- 'galoislaw27.CosetLagrange': WHATEVER THE INPUT: true; the input reads as it did. -/
def cosetLagrangeSpec : ChangeSpec := { name := "cosetLagrange", fn := fun _ => fun
  | [d1, d2] => { results := [.lit (.bool true)], args := [d1, d2] }
  | _ => none }
def cosetLagrangeRow : OpenClaim := { program := "ytaaaljifclecnaa", sum := "e6ab75f27a940e20f4c50c490915ab6a97d1636799d02bcd34225b631b8f0f90", func := "galois/galoislaw27.CosetLagrange", spec := "cosetLagrange", unfollowed := true, recurses := true, apart := false }
def CosetLagrangeSaid : Prop := cosetLagrangeRow.holds Try.pinned (OpenSpec.ofChange cosetLagrangeSpec)

/-- ITS FALSE NEIGHBOUR: 'it returns false'. Refute it at one input. -/
def cosetLagrangeWrong : ChangeSpec := { name := "cosetLagrange", fn := fun _ => fun
  | [d1, d2] => { results := [.lit (.bool false)], args := [d1, d2] }
  | _ => none }
def CosetLagrangeWrongFalsely : Prop := cosetLagrangeRow.holds Try.pinned (OpenSpec.ofChange cosetLagrangeWrong)

/-- 'galoislaw27.CosetChecks': WHATEVER THE INPUT: true; the input reads as it did. -/
def cosetChecksSpec : ChangeSpec := { name := "cosetChecks", fn := fun _ => fun
  | [d] => { results := [.lit (.bool true)], args := [d] }
  | _ => none }
def cosetChecksRow : OpenClaim := { program := "ytaaaljifclecnaa", sum := "e6ab75f27a940e20f4c50c490915ab6a97d1636799d02bcd34225b631b8f0f90", func := "galois/galoislaw27.CosetChecks", spec := "cosetChecks", unfollowed := true, recurses := true, apart := false }
def CosetChecksSaid : Prop := cosetChecksRow.holds Try.pinned (OpenSpec.ofChange cosetChecksSpec)

/-- ITS FALSE NEIGHBOUR: 'it returns false'. Refute it at one input. -/
def cosetChecksWrong : ChangeSpec := { name := "cosetChecks", fn := fun _ => fun
  | [d] => { results := [.lit (.bool false)], args := [d] }
  | _ => none }
def CosetChecksWrongFalsely : Prop := cosetChecksRow.holds Try.pinned (OpenSpec.ofChange cosetChecksWrong)

/-- 'galoislaw27.CosetIsomorphisms': WHATEVER THE INPUT: true; the input reads as it did. -/
def cosetIsomorphismsSpec : ChangeSpec := { name := "cosetIsomorphisms", fn := fun _ => fun
  | [d1, d2] => { results := [.lit (.bool true)], args := [d1, d2] }
  | _ => none }
def cosetIsomorphismsRow : OpenClaim := { program := "ytaaaljifclecnaa", sum := "e6ab75f27a940e20f4c50c490915ab6a97d1636799d02bcd34225b631b8f0f90", func := "galois/galoislaw27.CosetIsomorphisms", spec := "cosetIsomorphisms", unfollowed := true, recurses := true, apart := false }
def CosetIsomorphismsSaid : Prop := cosetIsomorphismsRow.holds Try.pinned (OpenSpec.ofChange cosetIsomorphismsSpec)

/-- ITS FALSE NEIGHBOUR: 'it returns false'. Refute it at one input. -/
def cosetIsomorphismsWrong : ChangeSpec := { name := "cosetIsomorphisms", fn := fun _ => fun
  | [d1, d2] => { results := [.lit (.bool false)], args := [d1, d2] }
  | _ => none }
def CosetIsomorphismsWrongFalsely : Prop := cosetIsomorphismsRow.holds Try.pinned (OpenSpec.ofChange cosetIsomorphismsWrong)

/-- 'galoislaw27.CosetQuotients': WHATEVER THE INPUT: true; the input reads as it did. -/
def cosetQuotientsSpec : ChangeSpec := { name := "cosetQuotients", fn := fun _ => fun
  | [d1, d2] => { results := [.lit (.bool true)], args := [d1, d2] }
  | _ => none }
def cosetQuotientsRow : OpenClaim := { program := "ytaaaljifclecnaa", sum := "e6ab75f27a940e20f4c50c490915ab6a97d1636799d02bcd34225b631b8f0f90", func := "galois/galoislaw27.CosetQuotients", spec := "cosetQuotients", unfollowed := true, recurses := true, apart := false }
def CosetQuotientsSaid : Prop := cosetQuotientsRow.holds Try.pinned (OpenSpec.ofChange cosetQuotientsSpec)

/-- ITS FALSE NEIGHBOUR: 'it returns false'. Refute it at one input. -/
def cosetQuotientsWrong : ChangeSpec := { name := "cosetQuotients", fn := fun _ => fun
  | [d1, d2] => { results := [.lit (.bool false)], args := [d1, d2] }
  | _ => none }
def CosetQuotientsWrongFalsely : Prop := cosetQuotientsRow.holds Try.pinned (OpenSpec.ofChange cosetQuotientsWrong)

/- THE SECOND FORM. 'bulk': how many values and letters a reading holds, each counted each time it is reached (what is shared counts as often as it is met; a slice's spare places count too). A statement '..UptoSaid' is the law's where the arguments, and the package variables that the reading takes, are together of bulk at most 1048576: NARROWER than '..Said'. Prove '..Said' where nothing that the law and all that it calls make is longer than what came in: it says more and counts as full. Else prove '..UptoSaid'. A law counts once. -/
mutual
def uptoBulk {H : Type} : DataW H → Nat
  | .lit (.string bytes) => bytes.length + 1
  | .lit _ => 1
  | .nil => 1
  | .ptr d => uptoBulk d + 1
  | .slice elems spare => uptoBulkAll elems + uptoBulkAll spare + 1
  | .agg parts => uptoBulkAll parts + 1
  | .iface _ d => uptoBulk d + 1
  | .map entries => uptoBulkEntries entries + 1
  | .held _ => 1
def uptoBulkAll {H : Type} : List (DataW H) → Nat
  | [] => 0
  | d :: r => uptoBulk d + uptoBulkAll r
def uptoBulkEntries {H : Type} : List (Lit × DataW H) → Nat
  | [] => 0
  | x :: r => uptoBulkEntry x + uptoBulkEntries r
def uptoBulkEntry {H : Type} : Lit × DataW H → Nat
  | (.string bytes, d) => bytes.length + uptoBulk d + 1
  | (_, d) => uptoBulk d + 1
 end
def uptoSmall : (H : Type) → List (DataW H) → Bool := fun _ ds => decide (uptoBulkAll ds ≤ 1048576)
def OpenSpec.upto (s : _root_.Go.ChangeSpec) : _root_.Go.OpenSpec := { _root_.Go.OpenSpec.ofChange s with cond := some uptoSmall }

/-- 'galoislaw27.CosetTables', WHERE WHAT IT READS IS OF BULK AT MOST 1048576: true; the input reads as it did. -/
def cosetTablesUptoRow : OpenClaim := { program := "ytaaaljifclecnaa", sum := "e6ab75f27a940e20f4c50c490915ab6a97d1636799d02bcd34225b631b8f0f90", func := "galois/galoislaw27.CosetTables", spec := "cosetTables", unfollowed := true, recurses := true, apart := false, narrowed := true }
def CosetTablesUptoSaid : Prop := cosetTablesUptoRow.holds Try.pinned (OpenSpec.upto cosetTablesSpec)

/-- 'galoislaw27.CosetForms', WHERE WHAT IT READS IS OF BULK AT MOST 1048576: true; the input reads as it did. -/
def cosetFormsUptoRow : OpenClaim := { program := "ytaaaljifclecnaa", sum := "e6ab75f27a940e20f4c50c490915ab6a97d1636799d02bcd34225b631b8f0f90", func := "galois/galoislaw27.CosetForms", spec := "cosetForms", unfollowed := true, recurses := true, apart := false, narrowed := true }
def CosetFormsUptoSaid : Prop := cosetFormsUptoRow.holds Try.pinned (OpenSpec.upto cosetFormsSpec)

/-- 'galoislaw27.CosetDoubles', WHERE WHAT IT READS IS OF BULK AT MOST 1048576: true; the input reads as it did. -/
def cosetDoublesUptoRow : OpenClaim := { program := "ytaaaljifclecnaa", sum := "e6ab75f27a940e20f4c50c490915ab6a97d1636799d02bcd34225b631b8f0f90", func := "galois/galoislaw27.CosetDoubles", spec := "cosetDoubles", unfollowed := true, recurses := true, apart := false, narrowed := true }
def CosetDoublesUptoSaid : Prop := cosetDoublesUptoRow.holds Try.pinned (OpenSpec.upto cosetDoublesSpec)

/-- 'galoislaw27.CosetLagrange', WHERE WHAT IT READS IS OF BULK AT MOST 1048576: true; the input reads as it did. -/
def cosetLagrangeUptoRow : OpenClaim := { program := "ytaaaljifclecnaa", sum := "e6ab75f27a940e20f4c50c490915ab6a97d1636799d02bcd34225b631b8f0f90", func := "galois/galoislaw27.CosetLagrange", spec := "cosetLagrange", unfollowed := true, recurses := true, apart := false, narrowed := true }
def CosetLagrangeUptoSaid : Prop := cosetLagrangeUptoRow.holds Try.pinned (OpenSpec.upto cosetLagrangeSpec)

/-- 'galoislaw27.CosetChecks', WHERE WHAT IT READS IS OF BULK AT MOST 1048576: true; the input reads as it did. -/
def cosetChecksUptoRow : OpenClaim := { program := "ytaaaljifclecnaa", sum := "e6ab75f27a940e20f4c50c490915ab6a97d1636799d02bcd34225b631b8f0f90", func := "galois/galoislaw27.CosetChecks", spec := "cosetChecks", unfollowed := true, recurses := true, apart := false, narrowed := true }
def CosetChecksUptoSaid : Prop := cosetChecksUptoRow.holds Try.pinned (OpenSpec.upto cosetChecksSpec)

/-- 'galoislaw27.CosetIsomorphisms', WHERE WHAT IT READS IS OF BULK AT MOST 1048576: true; the input reads as it did. -/
def cosetIsomorphismsUptoRow : OpenClaim := { program := "ytaaaljifclecnaa", sum := "e6ab75f27a940e20f4c50c490915ab6a97d1636799d02bcd34225b631b8f0f90", func := "galois/galoislaw27.CosetIsomorphisms", spec := "cosetIsomorphisms", unfollowed := true, recurses := true, apart := false, narrowed := true }
def CosetIsomorphismsUptoSaid : Prop := cosetIsomorphismsUptoRow.holds Try.pinned (OpenSpec.upto cosetIsomorphismsSpec)

/-- 'galoislaw27.CosetQuotients', WHERE WHAT IT READS IS OF BULK AT MOST 1048576: true; the input reads as it did. -/
def cosetQuotientsUptoRow : OpenClaim := { program := "ytaaaljifclecnaa", sum := "e6ab75f27a940e20f4c50c490915ab6a97d1636799d02bcd34225b631b8f0f90", func := "galois/galoislaw27.CosetQuotients", spec := "cosetQuotients", unfollowed := true, recurses := true, apart := false, narrowed := true }
def CosetQuotientsUptoSaid : Prop := cosetQuotientsUptoRow.holds Try.pinned (OpenSpec.upto cosetQuotientsSpec)

end Rows
end Go.Proofs.Ytaaaljifclecnaa
