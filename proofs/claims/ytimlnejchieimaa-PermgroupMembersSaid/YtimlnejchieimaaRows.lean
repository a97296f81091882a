/-
  No cell of these rows narrows 'for every input' (looked for: loops, veiled, ifaces, maps, wideKeys, modest, calm, conditions, laid).
  DERIVED. THE GIVEN ROWS OF THIS SEAT. 6 by the template 'for every input the law returns true; each argument reads behind the call as it read before'; 0 by the template 'total and deterministic' (their statements: YtimlnejchieimaaTotals.lean).
  GIVEN WITH THE SEED: the statements are not yours to turn. If you find one false, say at which input.
  Laid BY PROGRAM, IN A SANDBOX (cutbox-rows.mjs): the forced cells as the released guide's own fill.sh prints them over the translation b8db73a7a5d865e3… (all of the seat's roots in one cut). By AI agents, Wed Nov 11 2026. No macro, syntax, notation, axiom, sorry.
-/
import Derived.Test.YtimlnejchieimaaChecked
import GoSem.Claim
import GoSem.ClaimJoined
import GoSem.ClaimMapViews
import Derived.JoinedTies
import Derived.KernelRfl
namespace Go.Proofs.Ytimlnejchieimaa
/- THE CELL 'sum', in the pinned program and in every row, IS THE sha256 OF THE DUMP (.gsa) THAT YtimlnejchieimaaProg.lean LOADS. Nothing in Lean hashes anything: it is a label: what it is worth is what the hold of that sum in a sandbox is worth. -/
noncomputable def Try.pinned : Pinned := { name := "ytimlnejchieimaa", sum := "b8db73a7a5d865e3ebc56cc147de867834726ae865a4d09141abb7e77b697537", checked := Try.checked }
namespace Rows
def none {H : Type} : Left H := { results := [], args := [] }

/-- 'galoislaw23.PermgroupForms': WHATEVER THE INPUT: true; the input reads as it did. -/
def permgroupFormsSpec : ChangeSpec := { name := "permgroupForms", fn := fun _ => fun
  | [d] => { results := [.lit (.bool true)], args := [d] }
  | _ => none }
def permgroupFormsRow : OpenClaim := { program := "ytimlnejchieimaa", sum := "b8db73a7a5d865e3ebc56cc147de867834726ae865a4d09141abb7e77b697537", func := "galois/galoislaw23.PermgroupForms", spec := "permgroupForms", unfollowed := true, recurses := true, apart := false }
def PermgroupFormsSaid : Prop := permgroupFormsRow.holds Try.pinned (OpenSpec.ofChange permgroupFormsSpec)

/-- ITS FALSE NEIGHBOUR: 'it returns false'. Refute it at one input. -/
def permgroupFormsWrong : ChangeSpec := { name := "permgroupForms", fn := fun _ => fun
  | [d] => { results := [.lit (.bool false)], args := [d] }
  | _ => none }
def PermgroupFormsWrongFalsely : Prop := permgroupFormsRow.holds Try.pinned (OpenSpec.ofChange permgroupFormsWrong)

/-- 'galoislaw23.PermgroupMembers': WHATEVER THE INPUT: true; the input reads as it did. -/
def permgroupMembersSpec : ChangeSpec := { name := "permgroupMembers", fn := fun _ => fun
  | [d1, d2, d3] => { results := [.lit (.bool true)], args := [d1, d2, d3] }
  | _ => none }
def permgroupMembersRow : OpenClaim := { program := "ytimlnejchieimaa", sum := "b8db73a7a5d865e3ebc56cc147de867834726ae865a4d09141abb7e77b697537", func := "galois/galoislaw23.PermgroupMembers", spec := "permgroupMembers", unfollowed := true, recurses := true, apart := false }
def PermgroupMembersSaid : Prop := permgroupMembersRow.holds Try.pinned (OpenSpec.ofChange permgroupMembersSpec)

/-- ITS FALSE NEIGHBOUR: 'it returns false'. Refute it at one input. -/
def permgroupMembersWrong : ChangeSpec := { name := "permgroupMembers", fn := fun _ => fun
  | [d1, d2, d3] => { results := [.lit (.bool false)], args := [d1, d2, d3] }
  | _ => none }
def PermgroupMembersWrongFalsely : Prop := permgroupMembersRow.holds Try.pinned (OpenSpec.ofChange permgroupMembersWrong)

/-- 'galoislaw23.PermgroupConjugates': WHATEVER THE INPUT: true; the input reads as it did. -/
def permgroupConjugatesSpec : ChangeSpec := { name := "permgroupConjugates", fn := fun _ => fun
  | [d1, d2, d3] => { results := [.lit (.bool true)], args := [d1, d2, d3] }
  | _ => none }
def permgroupConjugatesRow : OpenClaim := { program := "ytimlnejchieimaa", sum := "b8db73a7a5d865e3ebc56cc147de867834726ae865a4d09141abb7e77b697537", func := "galois/galoislaw23.PermgroupConjugates", spec := "permgroupConjugates", unfollowed := true, recurses := true, apart := false }
def PermgroupConjugatesSaid : Prop := permgroupConjugatesRow.holds Try.pinned (OpenSpec.ofChange permgroupConjugatesSpec)

/-- ITS FALSE NEIGHBOUR: 'it returns false'. Refute it at one input. -/
def permgroupConjugatesWrong : ChangeSpec := { name := "permgroupConjugates", fn := fun _ => fun
  | [d1, d2, d3] => { results := [.lit (.bool false)], args := [d1, d2, d3] }
  | _ => none }
def PermgroupConjugatesWrongFalsely : Prop := permgroupConjugatesRow.holds Try.pinned (OpenSpec.ofChange permgroupConjugatesWrong)

/-- 'galoislaw23.PermgroupChains': WHATEVER THE INPUT: true; the input reads as it did. -/
def permgroupChainsSpec : ChangeSpec := { name := "permgroupChains", fn := fun _ => fun
  | [d1, d2, d3] => { results := [.lit (.bool true)], args := [d1, d2, d3] }
  | _ => none }
def permgroupChainsRow : OpenClaim := { program := "ytimlnejchieimaa", sum := "b8db73a7a5d865e3ebc56cc147de867834726ae865a4d09141abb7e77b697537", func := "galois/galoislaw23.PermgroupChains", spec := "permgroupChains", unfollowed := true, recurses := true, apart := false }
def PermgroupChainsSaid : Prop := permgroupChainsRow.holds Try.pinned (OpenSpec.ofChange permgroupChainsSpec)

/-- ITS FALSE NEIGHBOUR: 'it returns false'. Refute it at one input. -/
def permgroupChainsWrong : ChangeSpec := { name := "permgroupChains", fn := fun _ => fun
  | [d1, d2, d3] => { results := [.lit (.bool false)], args := [d1, d2, d3] }
  | _ => none }
def PermgroupChainsWrongFalsely : Prop := permgroupChainsRow.holds Try.pinned (OpenSpec.ofChange permgroupChainsWrong)

/-- 'galoislaw23.PermgroupNamed': WHATEVER THE INPUT: true; the input reads as it did. -/
def permgroupNamedSpec : ChangeSpec := { name := "permgroupNamed", fn := fun _ => fun
  | [d] => { results := [.lit (.bool true)], args := [d] }
  | _ => none }
def permgroupNamedRow : OpenClaim := { program := "ytimlnejchieimaa", sum := "b8db73a7a5d865e3ebc56cc147de867834726ae865a4d09141abb7e77b697537", func := "galois/galoislaw23.PermgroupNamed", spec := "permgroupNamed", unfollowed := true, recurses := true, apart := false }
def PermgroupNamedSaid : Prop := permgroupNamedRow.holds Try.pinned (OpenSpec.ofChange permgroupNamedSpec)

/-- ITS FALSE NEIGHBOUR: 'it returns false'. Refute it at one input. -/
def permgroupNamedWrong : ChangeSpec := { name := "permgroupNamed", fn := fun _ => fun
  | [d] => { results := [.lit (.bool false)], args := [d] }
  | _ => none }
def PermgroupNamedWrongFalsely : Prop := permgroupNamedRow.holds Try.pinned (OpenSpec.ofChange permgroupNamedWrong)

/-- 'galoislaw23.PermgroupCounts': WHATEVER THE INPUT: true; the input reads as it did. -/
def permgroupCountsSpec : ChangeSpec := { name := "permgroupCounts", fn := fun _ => fun
  | [d1, d2, d3] => { results := [.lit (.bool true)], args := [d1, d2, d3] }
  | _ => none }
def permgroupCountsRow : OpenClaim := { program := "ytimlnejchieimaa", sum := "b8db73a7a5d865e3ebc56cc147de867834726ae865a4d09141abb7e77b697537", func := "galois/galoislaw23.PermgroupCounts", spec := "permgroupCounts", unfollowed := true, recurses := true, apart := false }
def PermgroupCountsSaid : Prop := permgroupCountsRow.holds Try.pinned (OpenSpec.ofChange permgroupCountsSpec)

/-- ITS FALSE NEIGHBOUR: 'it returns false'. Refute it at one input. -/
def permgroupCountsWrong : ChangeSpec := { name := "permgroupCounts", fn := fun _ => fun
  | [d1, d2, d3] => { results := [.lit (.bool false)], args := [d1, d2, d3] }
  | _ => none }
def PermgroupCountsWrongFalsely : Prop := permgroupCountsRow.holds Try.pinned (OpenSpec.ofChange permgroupCountsWrong)

/- THE SECOND FORM. 'bulk': how many values and letters a reading holds, each counted each time it is reached (what is shared counts as often as it is met; a slice's spare places count too). A statement '..UptoSaid' is the law's where the arguments, and the package variables that the reading takes, are together of bulk at most 1048576: NARROWER than '..Said'. Prove '..Said' where nothing that the law and all that it calls make is longer than what came in: it says more and counts as full. Else prove '..UptoSaid'. A law counts once. -/
mutual
def uptoBulk {H : Type} : DataW H → Nat
  | .lit (.string bytes) => bytes.length + 1
  | .lit _ => 1
  | .nil => 1
  | .ptr d => uptoBulk d + 1
  | .slice elems spare => uptoBulkAll elems + uptoBulkAll spare + 1
  | .agg parts => uptoBulkAll parts + 1
  | .iface _ d => uptoBulk d + 1
  | .map entries => uptoBulkEntries entries + 1
  | .held _ => 1
def uptoBulkAll {H : Type} : List (DataW H) → Nat
  | [] => 0
  | d :: r => uptoBulk d + uptoBulkAll r
def uptoBulkEntries {H : Type} : List (Lit × DataW H) → Nat
  | [] => 0
  | x :: r => uptoBulkEntry x + uptoBulkEntries r
def uptoBulkEntry {H : Type} : Lit × DataW H → Nat
  | (.string bytes, d) => bytes.length + uptoBulk d + 1
  | (_, d) => uptoBulk d + 1
 end
def uptoSmall : (H : Type) → List (DataW H) → Bool := fun _ ds => decide (uptoBulkAll ds ≤ 1048576)
def OpenSpec.upto (s : _root_.Go.ChangeSpec) : _root_.Go.OpenSpec := { _root_.Go.OpenSpec.ofChange s with cond := some uptoSmall }

/-- 'galoislaw23.PermgroupForms', WHERE WHAT IT READS IS OF BULK AT MOST 1048576: true; the input reads as it did. -/
def permgroupFormsUptoRow : OpenClaim := { program := "ytimlnejchieimaa", sum := "b8db73a7a5d865e3ebc56cc147de867834726ae865a4d09141abb7e77b697537", func := "galois/galoislaw23.PermgroupForms", spec := "permgroupForms", unfollowed := true, recurses := true, apart := false, narrowed := true }
def PermgroupFormsUptoSaid : Prop := permgroupFormsUptoRow.holds Try.pinned (OpenSpec.upto permgroupFormsSpec)

/-- 'galoislaw23.PermgroupMembers', WHERE WHAT IT READS IS OF BULK AT MOST 1048576: true; the input reads as it did. -/
def permgroupMembersUptoRow : OpenClaim := { program := "ytimlnejchieimaa", sum := "b8db73a7a5d865e3ebc56cc147de867834726ae865a4d09141abb7e77b697537", func := "galois/galoislaw23.PermgroupMembers", spec := "permgroupMembers", unfollowed := true, recurses := true, apart := false, narrowed := true }
def PermgroupMembersUptoSaid : Prop := permgroupMembersUptoRow.holds Try.pinned (OpenSpec.upto permgroupMembersSpec)

/-- 'galoislaw23.PermgroupConjugates', WHERE WHAT IT READS IS OF BULK AT MOST 1048576: true; the input reads as it did. -/
def permgroupConjugatesUptoRow : OpenClaim := { program := "ytimlnejchieimaa", sum := "b8db73a7a5d865e3ebc56cc147de867834726ae865a4d09141abb7e77b697537", func := "galois/galoislaw23.PermgroupConjugates", spec := "permgroupConjugates", unfollowed := true, recurses := true, apart := false, narrowed := true }
def PermgroupConjugatesUptoSaid : Prop := permgroupConjugatesUptoRow.holds Try.pinned (OpenSpec.upto permgroupConjugatesSpec)

/-- 'galoislaw23.PermgroupChains', WHERE WHAT IT READS IS OF BULK AT MOST 1048576: true; the input reads as it did. -/
def permgroupChainsUptoRow : OpenClaim := { program := "ytimlnejchieimaa", sum := "b8db73a7a5d865e3ebc56cc147de867834726ae865a4d09141abb7e77b697537", func := "galois/galoislaw23.PermgroupChains", spec := "permgroupChains", unfollowed := true, recurses := true, apart := false, narrowed := true }
def PermgroupChainsUptoSaid : Prop := permgroupChainsUptoRow.holds Try.pinned (OpenSpec.upto permgroupChainsSpec)

/-- 'galoislaw23.PermgroupNamed', WHERE WHAT IT READS IS OF BULK AT MOST 1048576: true; the input reads as it did. -/
def permgroupNamedUptoRow : OpenClaim := { program := "ytimlnejchieimaa", sum := "b8db73a7a5d865e3ebc56cc147de867834726ae865a4d09141abb7e77b697537", func := "galois/galoislaw23.PermgroupNamed", spec := "permgroupNamed", unfollowed := true, recurses := true, apart := false, narrowed := true }
def PermgroupNamedUptoSaid : Prop := permgroupNamedUptoRow.holds Try.pinned (OpenSpec.upto permgroupNamedSpec)

/-- 'galoislaw23.PermgroupCounts', WHERE WHAT IT READS IS OF BULK AT MOST 1048576: true; the input reads as it did. -/
def permgroupCountsUptoRow : OpenClaim := { program := "ytimlnejchieimaa", sum := "b8db73a7a5d865e3ebc56cc147de867834726ae865a4d09141abb7e77b697537", func := "galois/galoislaw23.PermgroupCounts", spec := "permgroupCounts", unfollowed := true, recurses := true, apart := false, narrowed := true }
def PermgroupCountsUptoSaid : Prop := permgroupCountsUptoRow.holds Try.pinned (OpenSpec.upto permgroupCountsSpec)

end Rows
end Go.Proofs.Ytimlnejchieimaa
