-- Printed.
import Derived.Test.YtmbldnoepjmhhaaZPermgroupFormsMg0
import Derived.Test.YtmbldnoepjmhhaaRows
import Derived.Test.YtmbldnoepjmhhaaZPermgroupFormsPFox1
import Derived.Test.YtmbldnoepjmhhaaZPermgroupFormsPure
import Derived.Test.YtmbldnoepjmhhaaZPermgroupFormsOpen
import Derived.WalkKit
import Derived.ProofKit
import Derived.OpenShut
import Derived.ShutString
import Derived.ChangeOld
import Derived.Below
import Derived.SizedLaws
import Derived.Carry
import Derived.Lib.SmallJoins
namespace Go.Proofs.Ytmbldnoepjmhhaa.permgroupForms
open Go.Joins Go.ChangeShapes Go.WideShapes Go.ChangeAt Go.RowKit Go.Proofs.Ytmbldnoepjmhhaa.Plain Go.Proofs.YtmbldnoepjmhhaaW.PrintWords
open Go.ChangeMaps (open_string shut_string)
set_option linter.unusedVariables false
theorem own : ownKnob Try.prog.godebug = none := by kernel_rfl
theorem laidOut : laidOutB Try.prog = true := by kernel_rfl
set_option maxRecDepth 100000 in
theorem lifted (os : Os) (started : os.Started) (H : Type) (enc : TypeId × Value → H) :
    ReturnsInHanded {} Try.checked os 5 .any (Rows.permgroupFormsSpec.pre6 enc Try.prog Try.f5 Rows.permgroupFormsRow.domain false) (Rows.permgroupFormsSpec.post enc Try.prog Try.f5 false true false false) := by
  refine returnsInHanded_of_change_sized (C := Try.checked) own started (by kernel_rfl) Try.func5
    (ChangeSpec.witness6 (enc := enc) (C := Try.checked) false ⟨#[], #[.agg #[.int .i64 0, .slice none 0 0]], []⟩ 8 (by kernel_rfl) (by kernel_rfl) (by kernel_rfl) (by kernel_rfl)) ?_
  intro W base args ds gs before hval0 hW hcnd hsz0 _
  have hsz : (DataW.weightsEach Try.prog (Try.f5.params.toList ++ Rows.permgroupFormsSpec.plain.varTypes Try.prog) (ds ++ gs)).all (· ≤ reachBytes) = true := hsz0
  have hval : ∀ (j : Nat) t v, Try.f5.params[j]? = some t → args[j]? = some v → Value.okWide Try.prog W .any base t v := hval0
  have hW' := hW
  obtain ⟨p, q, hA0, hV, rfl, hfz, hnd⟩ := hW
  have hA : DataW.TrodAll enc Try.prog W 0 (fun _ => true) true Try.f5.params.toList args.toList ds p := hA0
  rw [Try.params5] at hA hval hsz
  obtain ⟨v0, vs0, d0, ds0, p0, q0, hargs, rfl, rfl, h0, r0⟩ := trodAll_cons hA
  obtain ⟨rfl, rfl, rfl⟩ := trodAll_nil r0
  obtain rfl : args = #[v0] := by cases args; simp_all
  obtain ⟨rfl, rfl⟩ := trodVars_none hV
  have k0 := h0
  have lt0 : ∀ x ∈ p0, x.block < W.heap.size := by obtain ⟨m, hm⟩ := k0; exact DataW.trod_lt m _ _ _ hm
  obtain ⟨u0_0, u0_1, y0_0, y0_1, m0, rfl, rfl, rfl, t0_0, t0_1⟩ := open_agg2 Try.underlying37 (by kernel_rfl) (by kernel_rfl) (hval 0 37 v0 rfl rfl) h0
  obtain ⟨a0_0, e0_0, w0_0⟩ := opens_int Try.underlying3 _ _ _ t0_0
  obtain rfl : u0_0 = _ := (List.cons.inj e0_0).1
  obtain ⟨a0_1, cap0_1, l0_1, e0_1, hc0_1, hm0_1, hr0_1, hw0_1⟩ := open_rows Try.underlying35 (by kernel_rfl) (opens_slice (E := 3) Try.underlying49 (by kernel_rfl) (opens_int Try.underlying3)) t0_1
  obtain rfl : u0_1 = _ := (List.cons.inj e0_1).1
  clear hA0 hval0 hsz0 hsz
  refine (PFo.galoislaw23_PermgroupForms.walk Pure.PermgroupForms a0_0 a0_1 cap0_1 l0_1 W w0_0 hr0_1 hc0_1 hm0_1 hw0_1).mono fun e W' ⟨he, bel⟩ => ?_
  subst he
  exact ⟨_, rfl, _, _, _, [], _, [], hW', trodAll_mk1 (shut_bool Try.underlying4 _), (trodAll_cons_mk (Below.trod laidOut (by kernel_rfl) (of_decide_eq_true (by kernel_rfl)) k0 bel lt0) trodAll_mk0), rfl, bel.frame _, fun h => by cases h⟩
theorem over : Rows.permgroupFormsRow.holds Try.pinned (OpenSpec.ofChange Rows.permgroupFormsSpec) :=
  OpenClaim.holds_of_wide 5 Try.f5 rfl rfl rfl rfl rfl rfl rfl ⟨rfl, rfl, rfl, rfl, rfl⟩ rfl rfl rfl rfl rfl (by kernel_rfl) Try.func5 (by kernel_rfl)
    (of_decide_eq_true (by kernel_rfl)) (by unfold Func.isWrapper; first | (rw [if_pos (by decide +kernel)]; kernel_rfl) | (rw [if_neg (by decide +kernel)]; exact ⟨rfl, rfl⟩))
    (fun os started H enc _ => lifted os started H enc)
theorem proved : Rows.PermgroupFormsSaid := over
#print axioms proved
end Go.Proofs.Ytmbldnoepjmhhaa.permgroupForms
namespace Go.Proofs.Ytmbldnoepjmhhaa
theorem permgroupForms_holds : Rows.PermgroupFormsSaid := permgroupForms.proved
end Go.Proofs.Ytmbldnoepjmhhaa
