-- Printed.
import Derived.Test.YtmbldnoepjmhhaaGreatZPermgroupPairsPPax0
namespace Go.Proofs.YtmbldnoepjmhhaaGreat.PPa
open Go.RowKit Go.Proofs.YtmbldnoepjmhhaaGreatW.PrintWords Go.Proofs.YtmbldnoepjmhhaaGreatW.PrintLast Go.Proofs.YtmbldnoepjmhhaaGreatW.PrintMore
attribute [local go_sem] max2_int min2_int max_two min_two max_three min_three max_four min_four
set_option linter.unusedVariables false
set_option linter.unusedSimpArgs false
abbrev galoislaw23_PermgroupPairs.f := @Go.Proofs.YtmbldnoepjmhhaaGreat.Bs.galoislaw23_PermgroupPairs.f
abbrev galoislaw23_PermgroupPairs.mono := @Go.Proofs.YtmbldnoepjmhhaaGreat.Bs.galoislaw23_PermgroupPairs.mono
abbrev galoislaw23_PermgroupPairs.calls := @Go.Proofs.YtmbldnoepjmhhaaGreat.Bs.galoislaw23_PermgroupPairs.calls
def galoislaw23_PermgroupPairs.Pure : Prop := ∀ (a0_0 : Int) (l0_1 : List (List Int)) (a1_0 : Int) (l1_1 : List (List Int)), (Lit.int .i64 a0_0).wf = true → l0_1.length ≤ maxLen → (∀ x ∈ l0_1, (x.length ≤ maxLen ∧ ∀ y0 ∈ x, (Lit.int .i64 y0).wf = true)) → (Lit.int .i64 a1_0).wf = true → l1_1.length ≤ maxLen → (∀ x ∈ l1_1, (x.length ≤ maxLen ∧ ∀ y0 ∈ x, (Lit.int .i64 y0).wf = true)) → ∃ k, galoislaw23_PermgroupPairs.f k a0_0 l0_1 a1_0 l1_1 = some true
theorem galoislaw23_PermgroupPairs.walk (P : galoislaw23_PermgroupPairs.Pure) (a0_0 : Int) (A0_1 : Option Addr) (c0_1 : Nat) (l0_1 : List (List Int)) (a1_0 : Int) (A1_1 : Option Addr) (c1_1 : Nat) (l1_1 : List (List Int)) (w : World) (w0_0 : (Lit.int .i64 a0_0).wf = true) (hr0_1 : Kd.C (Kd.slice 3 (Kd.int .i64)) w A0_1 l0_1.length l0_1) (hc0_1 : l0_1.length ≤ c0_1) (hm0_1 : l0_1.length ≤ maxLen) (hw0_1 : ∀ x ∈ l0_1, (x.length ≤ maxLen ∧ ∀ y0 ∈ x, (Lit.int .i64 y0).wf = true)) (w1_0 : (Lit.int .i64 a1_0).wf = true) (hr1_1 : Kd.C (Kd.slice 3 (Kd.int .i64)) w A1_1 l1_1.length l1_1) (hc1_1 : l1_1.length ≤ c1_1) (hm1_1 : l1_1.length ≤ maxLen) (hw1_1 : ∀ x ∈ l1_1, (x.length ≤ maxLen ∧ ∀ y0 ∈ x, (Lit.int .i64 y0).wf = true)) :
  Calls Tryz.prog 5 #[.agg #[.int .i64 a0_0, .slice A0_1 l0_1.length c0_1], .agg #[.int .i64 a1_0, .slice A1_1 l1_1.length c1_1]] w fun e w' => e = .returned (.bool true) ∧ Below w.heap.size w w' := by
 obtain ⟨k, h⟩ := P a0_0 l0_1 a1_0 l1_1 w0_0 hm0_1 hw0_1 w1_0 hm1_1 hw1_1
 refine (galoislaw23_PermgroupPairs.calls k a0_0 _ _ l0_1 a1_0 _ _ l1_1 true w hr0_1 hc0_1 hr1_1 hc1_1 h).mono ?_
 rintro e w' ⟨rfl, hd⟩
 exact ⟨rfl, hd⟩
end Go.Proofs.YtmbldnoepjmhhaaGreat.PPa
