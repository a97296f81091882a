-- Printed by wip/tools/mk.py of this repo (the kit's print with turns made in memory).
import Derived.Test.YtmbldnoepjmhhaaZPermgroupCountsPCtx0
namespace Go.Proofs.Ytmbldnoepjmhhaa.PCt
open Go.RowKit Go.Proofs.YtmbldnoepjmhhaaW.PrintWords Go.Proofs.YtmbldnoepjmhhaaW.PrintLast Go.Proofs.YtmbldnoepjmhhaaW.PrintMore
attribute [local go_sem] max2_int min2_int max_two min_two max_three min_three max_four min_four   -- for this text's walks alone
set_option linter.unusedVariables false
set_option linter.unusedSimpArgs false
abbrev galoislaw23_PermgroupCounts.f := @Go.Proofs.Ytmbldnoepjmhhaa.Bs.galoislaw23_PermgroupCounts.f
abbrev galoislaw23_PermgroupCounts.mono := @Go.Proofs.Ytmbldnoepjmhhaa.Bs.galoislaw23_PermgroupCounts.mono
abbrev galoislaw23_PermgroupCounts.calls := @Go.Proofs.Ytmbldnoepjmhhaa.Bs.galoislaw23_PermgroupCounts.calls
def galoislaw23_PermgroupCounts.Pure : Prop := ∀ (a0_0 : Int) (l0_1 : List (List Int)) (a1 : Int) (a2 : Int), (Lit.int .i64 a0_0).wf = true → l0_1.length ≤ maxLen → (∀ x ∈ l0_1, (x.length ≤ maxLen ∧ ∀ y0 ∈ x, (Lit.int .i64 y0).wf = true)) → (Lit.int .u32 a1).wf = true → (Lit.int .u32 a2).wf = true → ∃ k, galoislaw23_PermgroupCounts.f k a0_0 l0_1 a1 a2 = some true
theorem galoislaw23_PermgroupCounts.walk (P : galoislaw23_PermgroupCounts.Pure) (a0_0 : Int) (A0_1 : Option Addr) (c0_1 : Nat) (l0_1 : List (List Int)) (a1 : Int) (a2 : Int) (w : World) (w0_0 : (Lit.int .i64 a0_0).wf = true) (hr0_1 : Kd.C (Kd.slice 3 (Kd.int .i64)) w A0_1 l0_1.length l0_1) (hc0_1 : l0_1.length ≤ c0_1) (hm0_1 : l0_1.length ≤ maxLen) (hw0_1 : ∀ x ∈ l0_1, (x.length ≤ maxLen ∧ ∀ y0 ∈ x, (Lit.int .i64 y0).wf = true)) (w1 : (Lit.int .u32 a1).wf = true) (w2 : (Lit.int .u32 a2).wf = true) :
  Calls Try.prog 8 #[.agg #[.int .i64 a0_0, .slice A0_1 l0_1.length c0_1], .int .u32 a1, .int .u32 a2] w fun e w' => e = .returned (.bool true) ∧ Below w.heap.size w w' := by
 obtain ⟨k, h⟩ := P a0_0 l0_1 a1 a2 w0_0 hm0_1 hw0_1 w1 w2
 refine (galoislaw23_PermgroupCounts.calls k a0_0 _ _ l0_1 a1 a2 true w hr0_1 hc0_1 h).mono ?_
 rintro e w' ⟨rfl, hd⟩
 exact ⟨rfl, hd⟩
end Go.Proofs.Ytmbldnoepjmhhaa.PCt
