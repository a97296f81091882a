-- Printed by wip/tools/mk.py of this repo (the kit's print with turns made in memory).
import Derived.Test.YtmbldnoepjmhhaaGreatZPermgroupStabilizersPStx0
namespace Go.Proofs.YtmbldnoepjmhhaaGreat.PSt
open Go.RowKit Go.Proofs.YtmbldnoepjmhhaaGreatW.PrintWords Go.Proofs.YtmbldnoepjmhhaaGreatW.PrintLast Go.Proofs.YtmbldnoepjmhhaaGreatW.PrintMore
attribute [local go_sem] max2_int min2_int max_two min_two max_three min_three max_four min_four   -- for this text's walks alone
set_option linter.unusedVariables false
set_option linter.unusedSimpArgs false
abbrev galoislaw23_PermgroupStabilizers.f := @Go.Proofs.YtmbldnoepjmhhaaGreat.Bs.galoislaw23_PermgroupStabilizers.f
abbrev galoislaw23_PermgroupStabilizers.mono := @Go.Proofs.YtmbldnoepjmhhaaGreat.Bs.galoislaw23_PermgroupStabilizers.mono
abbrev galoislaw23_PermgroupStabilizers.calls := @Go.Proofs.YtmbldnoepjmhhaaGreat.Bs.galoislaw23_PermgroupStabilizers.calls
def galoislaw23_PermgroupStabilizers.Pure : Prop := ∀ (a0_0 : Int) (l0_1 : List (List Int)) (l1 : List Int), (Lit.int .i64 a0_0).wf = true → l0_1.length ≤ maxLen → (∀ x ∈ l0_1, (x.length ≤ maxLen ∧ ∀ y0 ∈ x, (Lit.int .i64 y0).wf = true)) → l1.length ≤ maxLen → (∀ x ∈ l1, (Lit.int .i64 x).wf = true) → ∃ k, galoislaw23_PermgroupStabilizers.f k a0_0 l0_1 l1 = some true
theorem galoislaw23_PermgroupStabilizers.walk (P : galoislaw23_PermgroupStabilizers.Pure) (a0_0 : Int) (A0_1 : Option Addr) (c0_1 : Nat) (l0_1 : List (List Int)) (A1 : Option Addr) (c1 : Nat) (l1 : List Int) (w : World) (w0_0 : (Lit.int .i64 a0_0).wf = true) (hr0_1 : Kd.C (Kd.slice 3 (Kd.int .i64)) w A0_1 l0_1.length l0_1) (hc0_1 : l0_1.length ≤ c0_1) (hm0_1 : l0_1.length ≤ maxLen) (hw0_1 : ∀ x ∈ l0_1, (x.length ≤ maxLen ∧ ∀ y0 ∈ x, (Lit.int .i64 y0).wf = true)) (hr1 : Kd.C (Kd.int .i64) w A1 l1.length l1) (hc1 : l1.length ≤ c1) (hm1 : l1.length ≤ maxLen) (hw1 : ∀ x ∈ l1, (Lit.int .i64 x).wf = true) :
  Calls Tryz.prog 4 #[.agg #[.int .i64 a0_0, .slice A0_1 l0_1.length c0_1], .slice A1 l1.length c1] w fun e w' => e = .returned (.bool true) ∧ Below w.heap.size w w' := by
 obtain ⟨k, h⟩ := P a0_0 l0_1 l1 w0_0 hm0_1 hw0_1 hm1 hw1
 refine (galoislaw23_PermgroupStabilizers.calls k a0_0 _ _ l0_1 _ _ l1 true w hr0_1 hc0_1 hr1 hc1 h).mono ?_
 rintro e w' ⟨rfl, hd⟩
 exact ⟨rfl, hd⟩
end Go.Proofs.YtmbldnoepjmhhaaGreat.PSt
