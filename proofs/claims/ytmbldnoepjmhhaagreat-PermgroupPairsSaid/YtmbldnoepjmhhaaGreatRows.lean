/-
  No cell of these rows narrows 'for every input' (looked for: loops, veiled, ifaces, maps, wideKeys, modest, calm, conditions, laid).
  DERIVED. THE GIVEN ROWS OF THIS SEAT. 4 by the template 'for every input the law returns true; each argument reads behind the call as it read before'; 0 by the template 'total and deterministic' (their statements: YtmbldnoepjmhhaaGreatTotals.lean).
  GIVEN WITH THE SEED: the statements are not yours to turn. If you find one false, say at which input.
  Laid BY PROGRAM, IN A SANDBOX (cutbox-rows.mjs): the forced cells as the released guide's own fill.sh prints them over the translation fdadb9940f84205d… (all of the seat's roots in one cut). By AI agents, Wed Nov 11 2026. No macro, syntax, notation, axiom, sorry.
-/
import Derived.Test.YtmbldnoepjmhhaaGreatChecked
import GoSem.Claim
import GoSem.ClaimJoined
import GoSem.ClaimMapViews
import Derived.JoinedTies
import Derived.KernelRfl
namespace Go.Proofs.YtmbldnoepjmhhaaGreat
/- THE CELL 'sum', in the pinned program and in every row, IS THE sha256 OF THE DUMP (.gsa) THAT YtmbldnoepjmhhaaGreatProg.lean LOADS. Nothing in Lean hashes anything: it is a label: what it is worth is what the hold of that sum in a sandbox is worth. -/
noncomputable def Tryz.pinned : Pinned := { name := "ytmbldnoepjmhhaagreat", sum := "fdadb9940f84205d343c891dc5fe9652727d4a0ddf1e34211fda0f5301bb3086", checked := Tryz.checked }
namespace Rows
def none {H : Type} : Left H := { results := [], args := [] }

/-- 'galoislaw27.CosetActions': WHATEVER THE INPUT: true; the input reads as it did. -/
def cosetActionsSpec : ChangeSpec := { name := "cosetActions", fn := fun _ => fun
  | [d1, d2] => { results := [.lit (.bool true)], args := [d1, d2] }
  | _ => none }
def cosetActionsRow : OpenClaim := { program := "ytmbldnoepjmhhaagreat", sum := "fdadb9940f84205d343c891dc5fe9652727d4a0ddf1e34211fda0f5301bb3086", func := "galois/galoislaw27.CosetActions", spec := "cosetActions", unfollowed := true, recurses := true, apart := false }
def CosetActionsSaid : Prop := cosetActionsRow.holds Tryz.pinned (OpenSpec.ofChange cosetActionsSpec)

/-- ITS FALSE NEIGHBOUR: 'it returns false'. Refute it at one input. -/
def cosetActionsWrong : ChangeSpec := { name := "cosetActions", fn := fun _ => fun
  | [d1, d2] => { results := [.lit (.bool false)], args := [d1, d2] }
  | _ => none }
def CosetActionsWrongFalsely : Prop := cosetActionsRow.holds Tryz.pinned (OpenSpec.ofChange cosetActionsWrong)

/-- 'galoislaw23.PermgroupStabilizers': WHATEVER THE INPUT: true; the input reads as it did. -/
def permgroupStabilizersSpec : ChangeSpec := { name := "permgroupStabilizers", fn := fun _ => fun
  | [d1, d2] => { results := [.lit (.bool true)], args := [d1, d2] }
  | _ => none }
def permgroupStabilizersRow : OpenClaim := { program := "ytmbldnoepjmhhaagreat", sum := "fdadb9940f84205d343c891dc5fe9652727d4a0ddf1e34211fda0f5301bb3086", func := "galois/galoislaw23.PermgroupStabilizers", spec := "permgroupStabilizers", unfollowed := true, recurses := true, apart := false }
def PermgroupStabilizersSaid : Prop := permgroupStabilizersRow.holds Tryz.pinned (OpenSpec.ofChange permgroupStabilizersSpec)

/-- ITS FALSE NEIGHBOUR: 'it returns false'. Refute it at one input. -/
def permgroupStabilizersWrong : ChangeSpec := { name := "permgroupStabilizers", fn := fun _ => fun
  | [d1, d2] => { results := [.lit (.bool false)], args := [d1, d2] }
  | _ => none }
def PermgroupStabilizersWrongFalsely : Prop := permgroupStabilizersRow.holds Tryz.pinned (OpenSpec.ofChange permgroupStabilizersWrong)

/-- 'galoislaw23.PermgroupPairs': WHATEVER THE INPUT: true; the input reads as it did. -/
def permgroupPairsSpec : ChangeSpec := { name := "permgroupPairs", fn := fun _ => fun
  | [d1, d2] => { results := [.lit (.bool true)], args := [d1, d2] }
  | _ => none }
def permgroupPairsRow : OpenClaim := { program := "ytmbldnoepjmhhaagreat", sum := "fdadb9940f84205d343c891dc5fe9652727d4a0ddf1e34211fda0f5301bb3086", func := "galois/galoislaw23.PermgroupPairs", spec := "permgroupPairs", unfollowed := true, recurses := true, apart := false }
def PermgroupPairsSaid : Prop := permgroupPairsRow.holds Tryz.pinned (OpenSpec.ofChange permgroupPairsSpec)

/-- ITS FALSE NEIGHBOUR: 'it returns false'. Refute it at one input. -/
def permgroupPairsWrong : ChangeSpec := { name := "permgroupPairs", fn := fun _ => fun
  | [d1, d2] => { results := [.lit (.bool false)], args := [d1, d2] }
  | _ => none }
def PermgroupPairsWrongFalsely : Prop := permgroupPairsRow.holds Tryz.pinned (OpenSpec.ofChange permgroupPairsWrong)

/-- 'galoislaw27.CosetTransitive': WHATEVER THE INPUT: true; the input reads as it did. -/
def cosetTransitiveSpec : ChangeSpec := { name := "cosetTransitive", fn := fun _ => fun
  | [d1, d2] => { results := [.lit (.bool true)], args := [d1, d2] }
  | _ => none }
def cosetTransitiveRow : OpenClaim := { program := "ytmbldnoepjmhhaagreat", sum := "fdadb9940f84205d343c891dc5fe9652727d4a0ddf1e34211fda0f5301bb3086", func := "galois/galoislaw27.CosetTransitive", spec := "cosetTransitive", unfollowed := true, recurses := true, apart := false }
def CosetTransitiveSaid : Prop := cosetTransitiveRow.holds Tryz.pinned (OpenSpec.ofChange cosetTransitiveSpec)

/-- ITS FALSE NEIGHBOUR: 'it returns false'. Refute it at one input. -/
def cosetTransitiveWrong : ChangeSpec := { name := "cosetTransitive", fn := fun _ => fun
  | [d1, d2] => { results := [.lit (.bool false)], args := [d1, d2] }
  | _ => none }
def CosetTransitiveWrongFalsely : Prop := cosetTransitiveRow.holds Tryz.pinned (OpenSpec.ofChange cosetTransitiveWrong)

/- THE SECOND FORM. 'bulk': how many values and letters a reading holds, each counted each time it is reached (what is shared counts as often as it is met; a slice's spare places count too). A statement '..UptoSaid' is the law's where the arguments, and the package variables that the reading takes, are together of bulk at most 1048576: NARROWER than '..Said'. Prove '..Said' where nothing that the law and all that it calls make is longer than what came in: it says more and counts as full. Else prove '..UptoSaid'. A law counts once. -/
mutual
def uptoBulk {H : Type} : DataW H → Nat
  | .lit (.string bytes) => bytes.length + 1
  | .lit _ => 1
  | .nil => 1
  | .ptr d => uptoBulk d + 1
  | .slice elems spare => uptoBulkAll elems + uptoBulkAll spare + 1
  | .agg parts => uptoBulkAll parts + 1
  | .iface _ d => uptoBulk d + 1
  | .map entries => uptoBulkEntries entries + 1
  | .held _ => 1
def uptoBulkAll {H : Type} : List (DataW H) → Nat
  | [] => 0
  | d :: r => uptoBulk d + uptoBulkAll r
def uptoBulkEntries {H : Type} : List (Lit × DataW H) → Nat
  | [] => 0
  | x :: r => uptoBulkEntry x + uptoBulkEntries r
def uptoBulkEntry {H : Type} : Lit × DataW H → Nat
  | (.string bytes, d) => bytes.length + uptoBulk d + 1
  | (_, d) => uptoBulk d + 1
 end
def uptoSmall : (H : Type) → List (DataW H) → Bool := fun _ ds => decide (uptoBulkAll ds ≤ 1048576)
def OpenSpec.upto (s : _root_.Go.ChangeSpec) : _root_.Go.OpenSpec := { _root_.Go.OpenSpec.ofChange s with cond := some uptoSmall }

/-- 'galoislaw27.CosetActions', WHERE WHAT IT READS IS OF BULK AT MOST 1048576: true; the input reads as it did. -/
def cosetActionsUptoRow : OpenClaim := { program := "ytmbldnoepjmhhaagreat", sum := "fdadb9940f84205d343c891dc5fe9652727d4a0ddf1e34211fda0f5301bb3086", func := "galois/galoislaw27.CosetActions", spec := "cosetActions", unfollowed := true, recurses := true, apart := false, narrowed := true }
def CosetActionsUptoSaid : Prop := cosetActionsUptoRow.holds Tryz.pinned (OpenSpec.upto cosetActionsSpec)

/-- 'galoislaw23.PermgroupStabilizers', WHERE WHAT IT READS IS OF BULK AT MOST 1048576: true; the input reads as it did. -/
def permgroupStabilizersUptoRow : OpenClaim := { program := "ytmbldnoepjmhhaagreat", sum := "fdadb9940f84205d343c891dc5fe9652727d4a0ddf1e34211fda0f5301bb3086", func := "galois/galoislaw23.PermgroupStabilizers", spec := "permgroupStabilizers", unfollowed := true, recurses := true, apart := false, narrowed := true }
def PermgroupStabilizersUptoSaid : Prop := permgroupStabilizersUptoRow.holds Tryz.pinned (OpenSpec.upto permgroupStabilizersSpec)

/-- 'galoislaw23.PermgroupPairs', WHERE WHAT IT READS IS OF BULK AT MOST 1048576: true; the input reads as it did. -/
def permgroupPairsUptoRow : OpenClaim := { program := "ytmbldnoepjmhhaagreat", sum := "fdadb9940f84205d343c891dc5fe9652727d4a0ddf1e34211fda0f5301bb3086", func := "galois/galoislaw23.PermgroupPairs", spec := "permgroupPairs", unfollowed := true, recurses := true, apart := false, narrowed := true }
def PermgroupPairsUptoSaid : Prop := permgroupPairsUptoRow.holds Tryz.pinned (OpenSpec.upto permgroupPairsSpec)

/-- 'galoislaw27.CosetTransitive', WHERE WHAT IT READS IS OF BULK AT MOST 1048576: true; the input reads as it did. -/
def cosetTransitiveUptoRow : OpenClaim := { program := "ytmbldnoepjmhhaagreat", sum := "fdadb9940f84205d343c891dc5fe9652727d4a0ddf1e34211fda0f5301bb3086", func := "galois/galoislaw27.CosetTransitive", spec := "cosetTransitive", unfollowed := true, recurses := true, apart := false, narrowed := true }
def CosetTransitiveUptoSaid : Prop := cosetTransitiveUptoRow.holds Tryz.pinned (OpenSpec.upto cosetTransitiveSpec)

end Rows
end Go.Proofs.YtmbldnoepjmhhaaGreat
