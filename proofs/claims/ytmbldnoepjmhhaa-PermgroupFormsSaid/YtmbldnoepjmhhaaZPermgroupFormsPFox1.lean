-- Printed.
import Derived.Test.YtmbldnoepjmhhaaZPermgroupFormsPFox0
namespace Go.Proofs.Ytmbldnoepjmhhaa.PFo
open Go.RowKit Go.Proofs.YtmbldnoepjmhhaaW.PrintWords Go.Proofs.YtmbldnoepjmhhaaW.PrintLast Go.Proofs.YtmbldnoepjmhhaaW.PrintMore
attribute [local go_sem] max2_int min2_int max_two min_two max_three min_three max_four min_four
set_option linter.unusedVariables false
set_option linter.unusedSimpArgs false
abbrev galoislaw23_PermgroupForms.f := @Go.Proofs.Ytmbldnoepjmhhaa.Bs.galoislaw23_PermgroupForms.f
abbrev galoislaw23_PermgroupForms.mono := @Go.Proofs.Ytmbldnoepjmhhaa.Bs.galoislaw23_PermgroupForms.mono
abbrev galoislaw23_PermgroupForms.calls := @Go.Proofs.Ytmbldnoepjmhhaa.Bs.galoislaw23_PermgroupForms.calls
def galoislaw23_PermgroupForms.Pure : Prop := ∀ (a0_0 : Int) (l0_1 : List (List Int)), (Lit.int .i64 a0_0).wf = true → l0_1.length ≤ maxLen → (∀ x ∈ l0_1, (x.length ≤ maxLen ∧ ∀ y0 ∈ x, (Lit.int .i64 y0).wf = true)) → ∃ k, galoislaw23_PermgroupForms.f k a0_0 l0_1 = some true
theorem galoislaw23_PermgroupForms.walk (P : galoislaw23_PermgroupForms.Pure) (a0_0 : Int) (A0_1 : Option Addr) (c0_1 : Nat) (l0_1 : List (List Int)) (w : World) (w0_0 : (Lit.int .i64 a0_0).wf = true) (hr0_1 : Kd.C (Kd.slice 3 (Kd.int .i64)) w A0_1 l0_1.length l0_1) (hc0_1 : l0_1.length ≤ c0_1) (hm0_1 : l0_1.length ≤ maxLen) (hw0_1 : ∀ x ∈ l0_1, (x.length ≤ maxLen ∧ ∀ y0 ∈ x, (Lit.int .i64 y0).wf = true)) :
  Calls Try.prog 5 #[.agg #[.int .i64 a0_0, .slice A0_1 l0_1.length c0_1]] w fun e w' => e = .returned (.bool true) ∧ Below w.heap.size w w' := by
 obtain ⟨k, h⟩ := P a0_0 l0_1 w0_0 hm0_1 hw0_1
 refine (galoislaw23_PermgroupForms.calls k a0_0 _ _ l0_1 true w hr0_1 hc0_1 h).mono ?_
 rintro e w' ⟨rfl, hd⟩
 exact ⟨rfl, hd⟩
end Go.Proofs.Ytmbldnoepjmhhaa.PFo
