-- Printed.
import Derived.Test.YtmbldnoepjmhhaaGreatZPermgroupPairsMg0
import Derived.Test.YtmbldnoepjmhhaaGreatRows
import Derived.Test.YtmbldnoepjmhhaaGreatZPermgroupPairsPPax1
import Derived.Test.YtmbldnoepjmhhaaGreatZPermgroupPairsPure
import Derived.Test.YtmbldnoepjmhhaaGreatZPermgroupPairsOpen
import Derived.WalkKit
import Derived.ProofKit
import Derived.OpenShut
import Derived.ShutString
import Derived.ChangeOld
import Derived.Below
import Derived.SizedLaws
import Derived.Carry
import Derived.Lib.SmallJoins
namespace Go.Proofs.YtmbldnoepjmhhaaGreat.permgroupPairs
open Go.Joins Go.ChangeShapes Go.WideShapes Go.ChangeAt Go.RowKit Go.Proofs.YtmbldnoepjmhhaaGreat.Plain Go.Proofs.YtmbldnoepjmhhaaGreatW.PrintWords
open Go.ChangeMaps (open_string shut_string)
set_option linter.unusedVariables false
theorem own : ownKnob Tryz.prog.godebug = none := by kernel_rfl
theorem laidOut : laidOutB Tryz.prog = true := by kernel_rfl
set_option maxRecDepth 100000 in
theorem lifted (os : Os) (started : os.Started) (H : Type) (enc : TypeId × Value → H) :
    ReturnsInHanded {} Tryz.checked os 5 .any (Rows.permgroupPairsSpec.pre6 enc Tryz.prog Tryz.f5 Rows.permgroupPairsRow.domain false) (Rows.permgroupPairsSpec.post enc Tryz.prog Tryz.f5 false true false false) := by
  refine returnsInHanded_of_change_sized (C := Tryz.checked) own started (by kernel_rfl) Tryz.func5
    (ChangeSpec.witness6 (enc := enc) (C := Tryz.checked) false ⟨#[], #[.agg #[.int .i64 0, .slice none 0 0], .agg #[.int .i64 0, .slice none 0 0]], []⟩ 8 (by kernel_rfl) (by kernel_rfl) (by kernel_rfl) (by kernel_rfl)) ?_
  intro W base args ds gs before hval0 hW hcnd hsz0 _
  have hsz : (DataW.weightsEach Tryz.prog (Tryz.f5.params.toList ++ Rows.permgroupPairsSpec.plain.varTypes Tryz.prog) (ds ++ gs)).all (· ≤ reachBytes) = true := hsz0
  have hval : ∀ (j : Nat) t v, Tryz.f5.params[j]? = some t → args[j]? = some v → Value.okWide Tryz.prog W .any base t v := hval0
  have hW' := hW
  obtain ⟨p, q, hA0, hV, rfl, hfz, hnd⟩ := hW
  have hA : DataW.TrodAll enc Tryz.prog W 0 (fun _ => true) true Tryz.f5.params.toList args.toList ds p := hA0
  rw [Tryz.params5] at hA hval hsz
  obtain ⟨v0, vs0, d0, ds0, p0, q0, hargs, rfl, rfl, h0, r0⟩ := trodAll_cons hA
  obtain ⟨v1, vs1, d1, ds1, p1, q1, rfl, rfl, rfl, h1, r1⟩ := trodAll_cons r0
  obtain ⟨rfl, rfl, rfl⟩ := trodAll_nil r1
  obtain rfl : args = #[v0, v1] := by cases args; simp_all
  obtain ⟨rfl, rfl⟩ := trodVars_none hV
  have k0 := h0
  have lt0 : ∀ x ∈ p0, x.block < W.heap.size := by obtain ⟨m, hm⟩ := k0; exact DataW.trod_lt m _ _ _ hm
  obtain ⟨u0_0, u0_1, y0_0, y0_1, m0, rfl, rfl, rfl, t0_0, t0_1⟩ := open_agg2 Tryz.underlying24 (by kernel_rfl) (by kernel_rfl) (hval 0 24 v0 rfl rfl) h0
  obtain ⟨a0_0, e0_0, w0_0⟩ := opens_int Tryz.underlying3 _ _ _ t0_0
  obtain rfl : u0_0 = _ := (List.cons.inj e0_0).1
  obtain ⟨a0_1, cap0_1, l0_1, e0_1, hc0_1, hm0_1, hr0_1, hw0_1⟩ := open_rows Tryz.underlying22 (by kernel_rfl) (opens_slice (E := 3) Tryz.underlying39 (by kernel_rfl) (opens_int Tryz.underlying3)) t0_1
  obtain rfl : u0_1 = _ := (List.cons.inj e0_1).1
  have k1 := h1
  have lt1 : ∀ x ∈ p1, x.block < W.heap.size := by obtain ⟨m, hm⟩ := k1; exact DataW.trod_lt m _ _ _ hm
  obtain ⟨u1_0, u1_1, y1_0, y1_1, m1, rfl, rfl, rfl, t1_0, t1_1⟩ := open_agg2 Tryz.underlying24 (by kernel_rfl) (by kernel_rfl) (hval 1 24 v1 rfl rfl) h1
  obtain ⟨a1_0, e1_0, w1_0⟩ := opens_int Tryz.underlying3 _ _ _ t1_0
  obtain rfl : u1_0 = _ := (List.cons.inj e1_0).1
  obtain ⟨a1_1, cap1_1, l1_1, e1_1, hc1_1, hm1_1, hr1_1, hw1_1⟩ := open_rows Tryz.underlying22 (by kernel_rfl) (opens_slice (E := 3) Tryz.underlying39 (by kernel_rfl) (opens_int Tryz.underlying3)) t1_1
  obtain rfl : u1_1 = _ := (List.cons.inj e1_1).1
  clear hA0 hval0 hsz0 hsz
  refine (PPa.galoislaw23_PermgroupPairs.walk Pure.PermgroupPairs a0_0 a0_1 cap0_1 l0_1 a1_0 a1_1 cap1_1 l1_1 W w0_0 hr0_1 hc0_1 hm0_1 hw0_1 w1_0 hr1_1 hc1_1 hm1_1 hw1_1).mono fun e W' ⟨he, bel⟩ => ?_
  subst he
  exact ⟨_, rfl, _, _, _, [], _, [], hW', trodAll_mk1 (shut_bool Tryz.underlying4 _), (trodAll_cons_mk (Below.trod laidOut (by kernel_rfl) (of_decide_eq_true (by kernel_rfl)) k0 bel lt0) (trodAll_cons_mk (Below.trod laidOut (by kernel_rfl) (of_decide_eq_true (by kernel_rfl)) k1 bel lt1) trodAll_mk0)), rfl, bel.frame _, fun h => by cases h⟩
theorem over : Rows.permgroupPairsRow.holds Tryz.pinned (OpenSpec.ofChange Rows.permgroupPairsSpec) :=
  OpenClaim.holds_of_wide 5 Tryz.f5 rfl rfl rfl rfl rfl rfl rfl ⟨rfl, rfl, rfl, rfl, rfl⟩ rfl rfl rfl rfl rfl (by kernel_rfl) Tryz.func5 (by kernel_rfl)
    (of_decide_eq_true (by kernel_rfl)) (by unfold Func.isWrapper; first | (rw [if_pos (by decide +kernel)]; kernel_rfl) | (rw [if_neg (by decide +kernel)]; exact ⟨rfl, rfl⟩))
    (fun os started H enc _ => lifted os started H enc)
theorem proved : Rows.PermgroupPairsSaid := over
#print axioms proved
end Go.Proofs.YtmbldnoepjmhhaaGreat.permgroupPairs
namespace Go.Proofs.YtmbldnoepjmhhaaGreat
theorem permgroupPairs_holds : Rows.PermgroupPairsSaid := permgroupPairs.proved
end Go.Proofs.YtmbldnoepjmhhaaGreat
