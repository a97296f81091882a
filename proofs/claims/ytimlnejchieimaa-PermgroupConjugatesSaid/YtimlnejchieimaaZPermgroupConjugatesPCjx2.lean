-- Printed by wip/tools/mk.py of this repo (the kit's print with turns made in memory).
import Derived.Test.YtimlnejchieimaaZPermgroupConjugatesPCjx0
import Derived.Test.YtimlnejchieimaaZPermgroupConjugatesPCjx1
namespace Go.Proofs.Ytimlnejchieimaa.PCj
open Go.RowKit Go.Proofs.YtimlnejchieimaaW.PrintWords Go.Proofs.YtimlnejchieimaaW.PrintLast Go.Proofs.YtimlnejchieimaaW.PrintMore Go.Proofs.Ytimlnejchieimaa.PAll
attribute [local go_sem] max2_int min2_int max_two min_two max_three min_three max_four min_four   -- for this text's walks alone
set_option linter.unusedVariables false
set_option linter.unusedSimpArgs false
def galoislaw23_awake.j0 : Nat → List (S66) → Bool → Int → List (List Int) → Option (Bool)
  | 0, _, _, _, _ => none
  | k + 1, x7, x63, x266000, x266001 => if x63 = true then (some false) else ((galoisref23_Equal.f k x266000 x266001 4 (([(([0, 3, 2, 1] : List Int)), (([1, 0, 3, 2] : List Int))] : List (List Int)))).bind fun t293 => (if t293 = true then (if 1 < (x7.length : Int) then ((galoisref22_Same.f k ((rd_T66 x7 1).f1) (([1, 3] : List Int))).bind fun t298 => (some t298)) else (none)) else (some false)))
def galoislaw23_awake.f (k : Nat)  : Option (Bool) := (galoislaw23_example.f).bind fun bt250 => ((permgroup_Order.f k bt250.1 bt250.2).bind fun bt254 => ((galoislaw23_example.f).bind fun bt256 => ((permgroup_Reduced.f k bt256.1 bt256.2).bind fun bt260 => ((galoislaw23_example.f).bind fun bt266 => ((permgroup_Index.f k bt266.1 bt266.2 (([1, 2, 3, 0] : List Int))).bind fun bt273 => ((galoislaw23_example.f).bind fun bt275 => ((permgroup_Chain.f k bt275.1 bt275.2).bind fun bt279 => (if bt254.2 = 0 then (if bt254.1 = 8 then (if bt260.2.2 = 0 then (if bt273.2 = 0 then (if bt273.1 = 3 then (if bt279.2 = 0 then (if (bt279.1.length : Int) = 2 then (if 1 < (bt279.1.length : Int) then (galoislaw23_awake.j0 k bt279.1 (((rd_T66 bt279.1 1).f0) != 1) bt260.1 bt260.2.1) else (none)) else (galoislaw23_awake.j0 k bt279.1 true bt260.1 bt260.2.1)) else (galoislaw23_awake.j0 k bt279.1 true bt260.1 bt260.2.1)) else (galoislaw23_awake.j0 k bt279.1 true bt260.1 bt260.2.1)) else (galoislaw23_awake.j0 k bt279.1 true bt260.1 bt260.2.1)) else (galoislaw23_awake.j0 k bt279.1 true bt260.1 bt260.2.1)) else (galoislaw23_awake.j0 k bt279.1 true bt260.1 bt260.2.1)) else (galoislaw23_awake.j0 k bt279.1 true bt260.1 bt260.2.1)))))))))
theorem galoislaw23_awake.mono_l : ∀ k, (∀ y0 y1 y2 y3, LeO (galoislaw23_awake.j0 k y0 y1 y2 y3) (galoislaw23_awake.j0 (k + 1) y0 y1 y2 y3))
  | 0 => fun _ _ _ _ r h => by simp [galoislaw23_awake.j0] at h
  | k + 1 => by
    have ih0 := galoislaw23_awake.mono_l k
    · intro y0 y1 y2 y3
      unfold galoislaw23_awake.j0
      repeat' first
      | (with_reducible exact ih0 _ _ _ _)
      | (with_reducible exact galoisref22_Same.mono _ _ _)
      | (with_reducible exact galoisref23_Equal.mono _ _ _ _ _)
      | (with_reducible exact permgroup_Chain.mono _ _ _)
      | (with_reducible exact permgroup_Index.mono _ _ _ _)
      | (with_reducible exact permgroup_Order.mono _ _ _)
      | (with_reducible exact permgroup_Reduced.mono _ _ _)
      | (with_reducible exact LeO.refl _)
      | (with_reducible exact LeO.none _)
      | (with_reducible refine LeO.ite ?_ ?_)
      | (with_reducible refine LeO.bind ?_ (fun _ => ?_))
      | exact ih0 _ _ _ _
      | exact galoisref22_Same.mono _ _ _
      | exact galoisref23_Equal.mono _ _ _ _ _
      | exact permgroup_Chain.mono _ _ _
      | exact permgroup_Index.mono _ _ _ _
      | exact permgroup_Order.mono _ _ _
      | exact permgroup_Reduced.mono _ _ _
      | exact LeO.none _
      | refine LeO.ite ?_ ?_
      | refine LeO.bind ?_ (fun _ => ?_)
theorem galoislaw23_awake.mono : ∀ k, LeO (galoislaw23_awake.f k ) (galoislaw23_awake.f (k + 1) ) := by
  intro  k
  have ih0 := galoislaw23_awake.mono_l k
  unfold galoislaw23_awake.f
  repeat' first
      | (with_reducible exact ih0 _ _ _ _)
      | (with_reducible exact galoisref22_Same.mono _ _ _)
      | (with_reducible exact galoisref23_Equal.mono _ _ _ _ _)
      | (with_reducible exact permgroup_Chain.mono _ _ _)
      | (with_reducible exact permgroup_Index.mono _ _ _ _)
      | (with_reducible exact permgroup_Order.mono _ _ _)
      | (with_reducible exact permgroup_Reduced.mono _ _ _)
      | (with_reducible exact LeO.refl _)
      | (with_reducible exact LeO.none _)
      | (with_reducible refine LeO.ite ?_ ?_)
      | (with_reducible refine LeO.bind ?_ (fun _ => ?_))
      | exact ih0 _ _ _ _
      | exact galoisref22_Same.mono _ _ _
      | exact galoisref23_Equal.mono _ _ _ _ _
      | exact permgroup_Chain.mono _ _ _
      | exact permgroup_Index.mono _ _ _ _
      | exact permgroup_Order.mono _ _ _
      | exact permgroup_Reduced.mono _ _ _
      | exact LeO.none _
      | refine LeO.ite ?_ ?_
      | refine LeO.bind ?_ (fun _ => ?_)
set_option maxHeartbeats 8000000 in
set_option maxRecDepth 100000 in
theorem galoislaw23_awake.calls (k : Nat)  (r : Bool) (w : World) (h : galoislaw23_awake.f k  = some r) :
    Calls Try.prog 9 #[] w fun e w' => e = .returned (.bool r) ∧ Below w.heap.size w w' := by
  have hu24 := Try.underlying24
  have HB := Aside0.mk (Below.refl w.heap.size w)
  have H : ((galoislaw23_example.f).bind fun bt250 => ((permgroup_Order.f k bt250.1 bt250.2).bind fun bt254 => ((galoislaw23_example.f).bind fun bt256 => ((permgroup_Reduced.f k bt256.1 bt256.2).bind fun bt260 => ((galoislaw23_example.f).bind fun bt266 => ((permgroup_Index.f k bt266.1 bt266.2 (([1, 2, 3, 0] : List Int))).bind fun bt273 => ((galoislaw23_example.f).bind fun bt275 => ((permgroup_Chain.f k bt275.1 bt275.2).bind fun bt279 => (if bt254.2 = 0 then (if bt254.1 = 8 then (if bt260.2.2 = 0 then (if bt273.2 = 0 then (if bt273.1 = 3 then (if bt279.2 = 0 then (if (bt279.1.length : Int) = 2 then (if 1 < (bt279.1.length : Int) then (galoislaw23_awake.j0 k bt279.1 (((rd_T66 bt279.1 1).f0) != 1) bt260.1 bt260.2.1) else (none)) else (galoislaw23_awake.j0 k bt279.1 true bt260.1 bt260.2.1)) else (galoislaw23_awake.j0 k bt279.1 true bt260.1 bt260.2.1)) else (galoislaw23_awake.j0 k bt279.1 true bt260.1 bt260.2.1)) else (galoislaw23_awake.j0 k bt279.1 true bt260.1 bt260.2.1)) else (galoislaw23_awake.j0 k bt279.1 true bt260.1 bt260.2.1)) else (galoislaw23_awake.j0 k bt279.1 true bt260.1 bt260.2.1)) else (galoislaw23_awake.j0 k bt279.1 true bt260.1 bt260.2.1)))))))))) = some r := h
  clear h
  replace H := Option.bind_eq_some_iff.mp H
  obtain ⟨⟨t250, t251⟩, A10, H⟩ := H
  replace H : ((permgroup_Order.f k t250 t251).bind fun bt254 => ((galoislaw23_example.f).bind fun bt256 => ((permgroup_Reduced.f k bt256.1 bt256.2).bind fun bt260 => ((galoislaw23_example.f).bind fun bt266 => ((permgroup_Index.f k bt266.1 bt266.2 (([1, 2, 3, 0] : List Int))).bind fun bt273 => ((galoislaw23_example.f).bind fun bt275 => ((permgroup_Chain.f k bt275.1 bt275.2).bind fun bt279 => (if bt254.2 = 0 then (if bt254.1 = 8 then (if bt260.2.2 = 0 then (if bt273.2 = 0 then (if bt273.1 = 3 then (if bt279.2 = 0 then (if (bt279.1.length : Int) = 2 then (if 1 < (bt279.1.length : Int) then (galoislaw23_awake.j0 k bt279.1 (((rd_T66 bt279.1 1).f0) != 1) bt260.1 bt260.2.1) else (none)) else (galoislaw23_awake.j0 k bt279.1 true bt260.1 bt260.2.1)) else (galoislaw23_awake.j0 k bt279.1 true bt260.1 bt260.2.1)) else (galoislaw23_awake.j0 k bt279.1 true bt260.1 bt260.2.1)) else (galoislaw23_awake.j0 k bt279.1 true bt260.1 bt260.2.1)) else (galoislaw23_awake.j0 k bt279.1 true bt260.1 bt260.2.1)) else (galoislaw23_awake.j0 k bt279.1 true bt260.1 bt260.2.1)) else (galoislaw23_awake.j0 k bt279.1 true bt260.1 bt260.2.1))))))))) = some r := H
  have A1 := Aside0.mk A10
  clear A10
  replace H := Option.bind_eq_some_iff.mp H
  obtain ⟨⟨t254, t255⟩, A20, H⟩ := H
  replace H : ((galoislaw23_example.f).bind fun bt256 => ((permgroup_Reduced.f k bt256.1 bt256.2).bind fun bt260 => ((galoislaw23_example.f).bind fun bt266 => ((permgroup_Index.f k bt266.1 bt266.2 (([1, 2, 3, 0] : List Int))).bind fun bt273 => ((galoislaw23_example.f).bind fun bt275 => ((permgroup_Chain.f k bt275.1 bt275.2).bind fun bt279 => (if t255 = 0 then (if t254 = 8 then (if bt260.2.2 = 0 then (if bt273.2 = 0 then (if bt273.1 = 3 then (if bt279.2 = 0 then (if (bt279.1.length : Int) = 2 then (if 1 < (bt279.1.length : Int) then (galoislaw23_awake.j0 k bt279.1 (((rd_T66 bt279.1 1).f0) != 1) bt260.1 bt260.2.1) else (none)) else (galoislaw23_awake.j0 k bt279.1 true bt260.1 bt260.2.1)) else (galoislaw23_awake.j0 k bt279.1 true bt260.1 bt260.2.1)) else (galoislaw23_awake.j0 k bt279.1 true bt260.1 bt260.2.1)) else (galoislaw23_awake.j0 k bt279.1 true bt260.1 bt260.2.1)) else (galoislaw23_awake.j0 k bt279.1 true bt260.1 bt260.2.1)) else (galoislaw23_awake.j0 k bt279.1 true bt260.1 bt260.2.1)) else (galoislaw23_awake.j0 k bt279.1 true bt260.1 bt260.2.1)))))))) = some r := H
  have A2 := Aside0.mk A20
  clear A20
  replace H := Option.bind_eq_some_iff.mp H
  obtain ⟨⟨t256, t257⟩, A30, H⟩ := H
  replace H : ((permgroup_Reduced.f k t256 t257).bind fun bt260 => ((galoislaw23_example.f).bind fun bt266 => ((permgroup_Index.f k bt266.1 bt266.2 (([1, 2, 3, 0] : List Int))).bind fun bt273 => ((galoislaw23_example.f).bind fun bt275 => ((permgroup_Chain.f k bt275.1 bt275.2).bind fun bt279 => (if t255 = 0 then (if t254 = 8 then (if bt260.2.2 = 0 then (if bt273.2 = 0 then (if bt273.1 = 3 then (if bt279.2 = 0 then (if (bt279.1.length : Int) = 2 then (if 1 < (bt279.1.length : Int) then (galoislaw23_awake.j0 k bt279.1 (((rd_T66 bt279.1 1).f0) != 1) bt260.1 bt260.2.1) else (none)) else (galoislaw23_awake.j0 k bt279.1 true bt260.1 bt260.2.1)) else (galoislaw23_awake.j0 k bt279.1 true bt260.1 bt260.2.1)) else (galoislaw23_awake.j0 k bt279.1 true bt260.1 bt260.2.1)) else (galoislaw23_awake.j0 k bt279.1 true bt260.1 bt260.2.1)) else (galoislaw23_awake.j0 k bt279.1 true bt260.1 bt260.2.1)) else (galoislaw23_awake.j0 k bt279.1 true bt260.1 bt260.2.1)) else (galoislaw23_awake.j0 k bt279.1 true bt260.1 bt260.2.1))))))) = some r := H
  have A3 := Aside0.mk A30
  clear A30
  replace H := Option.bind_eq_some_iff.mp H
  obtain ⟨⟨t260, t261, t264⟩, A40, H⟩ := H
  replace H : ((galoislaw23_example.f).bind fun bt266 => ((permgroup_Index.f k bt266.1 bt266.2 (([1, 2, 3, 0] : List Int))).bind fun bt273 => ((galoislaw23_example.f).bind fun bt275 => ((permgroup_Chain.f k bt275.1 bt275.2).bind fun bt279 => (if t255 = 0 then (if t254 = 8 then (if t264 = 0 then (if bt273.2 = 0 then (if bt273.1 = 3 then (if bt279.2 = 0 then (if (bt279.1.length : Int) = 2 then (if 1 < (bt279.1.length : Int) then (galoislaw23_awake.j0 k bt279.1 (((rd_T66 bt279.1 1).f0) != 1) t260 t261) else (none)) else (galoislaw23_awake.j0 k bt279.1 true t260 t261)) else (galoislaw23_awake.j0 k bt279.1 true t260 t261)) else (galoislaw23_awake.j0 k bt279.1 true t260 t261)) else (galoislaw23_awake.j0 k bt279.1 true t260 t261)) else (galoislaw23_awake.j0 k bt279.1 true t260 t261)) else (galoislaw23_awake.j0 k bt279.1 true t260 t261)) else (galoislaw23_awake.j0 k bt279.1 true t260 t261)))))) = some r := H
  have A4 := Aside0.mk A40
  clear A40
  replace H := Option.bind_eq_some_iff.mp H
  obtain ⟨⟨t266, t267⟩, A50, H⟩ := H
  replace H : ((permgroup_Index.f k t266 t267 (([1, 2, 3, 0] : List Int))).bind fun bt273 => ((galoislaw23_example.f).bind fun bt275 => ((permgroup_Chain.f k bt275.1 bt275.2).bind fun bt279 => (if t255 = 0 then (if t254 = 8 then (if t264 = 0 then (if bt273.2 = 0 then (if bt273.1 = 3 then (if bt279.2 = 0 then (if (bt279.1.length : Int) = 2 then (if 1 < (bt279.1.length : Int) then (galoislaw23_awake.j0 k bt279.1 (((rd_T66 bt279.1 1).f0) != 1) t260 t261) else (none)) else (galoislaw23_awake.j0 k bt279.1 true t260 t261)) else (galoislaw23_awake.j0 k bt279.1 true t260 t261)) else (galoislaw23_awake.j0 k bt279.1 true t260 t261)) else (galoislaw23_awake.j0 k bt279.1 true t260 t261)) else (galoislaw23_awake.j0 k bt279.1 true t260 t261)) else (galoislaw23_awake.j0 k bt279.1 true t260 t261)) else (galoislaw23_awake.j0 k bt279.1 true t260 t261))))) = some r := H
  have A5 := Aside0.mk A50
  clear A50
  obtain ⟨y270, hy270⟩ : ∃ y_ : List Int, y_ = (([1, 2, 3, 0] : List Int)) := ⟨_, rfl⟩
  replace H : ((permgroup_Index.f k t266 t267 y270).bind fun bt273 => ((galoislaw23_example.f).bind fun bt275 => ((permgroup_Chain.f k bt275.1 bt275.2).bind fun bt279 => (if t255 = 0 then (if t254 = 8 then (if t264 = 0 then (if bt273.2 = 0 then (if bt273.1 = 3 then (if bt279.2 = 0 then (if (bt279.1.length : Int) = 2 then (if 1 < (bt279.1.length : Int) then (galoislaw23_awake.j0 k bt279.1 (((rd_T66 bt279.1 1).f0) != 1) t260 t261) else (none)) else (galoislaw23_awake.j0 k bt279.1 true t260 t261)) else (galoislaw23_awake.j0 k bt279.1 true t260 t261)) else (galoislaw23_awake.j0 k bt279.1 true t260 t261)) else (galoislaw23_awake.j0 k bt279.1 true t260 t261)) else (galoislaw23_awake.j0 k bt279.1 true t260 t261)) else (galoislaw23_awake.j0 k bt279.1 true t260 t261)) else (galoislaw23_awake.j0 k bt279.1 true t260 t261))))) = some r := by first | (rw [hy270]; with_reducible exact H) | (have H2_ := (Option.bind_some _ _).symm.trans H; rw [hy270]; with_reducible exact H2_) | (have H2_ := (Option.bind_some _ _).symm.trans H; with_reducible exact H2_) | with_reducible exact H | (rw [hy270]; exact H) | exact H
  have Ny270 := Aside0.mk hy270
  clear hy270
  replace H := Option.bind_eq_some_iff.mp H
  obtain ⟨⟨t273, t274⟩, A60, H⟩ := H
  replace H : ((galoislaw23_example.f).bind fun bt275 => ((permgroup_Chain.f k bt275.1 bt275.2).bind fun bt279 => (if t255 = 0 then (if t254 = 8 then (if t264 = 0 then (if t274 = 0 then (if t273 = 3 then (if bt279.2 = 0 then (if (bt279.1.length : Int) = 2 then (if 1 < (bt279.1.length : Int) then (galoislaw23_awake.j0 k bt279.1 (((rd_T66 bt279.1 1).f0) != 1) t260 t261) else (none)) else (galoislaw23_awake.j0 k bt279.1 true t260 t261)) else (galoislaw23_awake.j0 k bt279.1 true t260 t261)) else (galoislaw23_awake.j0 k bt279.1 true t260 t261)) else (galoislaw23_awake.j0 k bt279.1 true t260 t261)) else (galoislaw23_awake.j0 k bt279.1 true t260 t261)) else (galoislaw23_awake.j0 k bt279.1 true t260 t261)) else (galoislaw23_awake.j0 k bt279.1 true t260 t261)))) = some r := H
  have A6 := Aside0.mk A60
  clear A60
  replace H := Option.bind_eq_some_iff.mp H
  obtain ⟨⟨t275, t276⟩, A70, H⟩ := H
  replace H : ((permgroup_Chain.f k t275 t276).bind fun bt279 => (if t255 = 0 then (if t254 = 8 then (if t264 = 0 then (if t274 = 0 then (if t273 = 3 then (if bt279.2 = 0 then (if (bt279.1.length : Int) = 2 then (if 1 < (bt279.1.length : Int) then (galoislaw23_awake.j0 k bt279.1 (((rd_T66 bt279.1 1).f0) != 1) t260 t261) else (none)) else (galoislaw23_awake.j0 k bt279.1 true t260 t261)) else (galoislaw23_awake.j0 k bt279.1 true t260 t261)) else (galoislaw23_awake.j0 k bt279.1 true t260 t261)) else (galoislaw23_awake.j0 k bt279.1 true t260 t261)) else (galoislaw23_awake.j0 k bt279.1 true t260 t261)) else (galoislaw23_awake.j0 k bt279.1 true t260 t261)) else (galoislaw23_awake.j0 k bt279.1 true t260 t261))) = some r := H
  have A7 := Aside0.mk A70
  clear A70
  replace H := Option.bind_eq_some_iff.mp H
  obtain ⟨⟨t279, t282⟩, A80, H⟩ := H
  replace H : (if t255 = 0 then (if t254 = 8 then (if t264 = 0 then (if t274 = 0 then (if t273 = 3 then (if t282 = 0 then (if (t279.length : Int) = 2 then (if 1 < (t279.length : Int) then (galoislaw23_awake.j0 k t279 (((rd_T66 t279 1).f0) != 1) t260 t261) else (none)) else (galoislaw23_awake.j0 k t279 true t260 t261)) else (galoislaw23_awake.j0 k t279 true t260 t261)) else (galoislaw23_awake.j0 k t279 true t260 t261)) else (galoislaw23_awake.j0 k t279 true t260 t261)) else (galoislaw23_awake.j0 k t279 true t260 t261)) else (galoislaw23_awake.j0 k t279 true t260 t261)) else (galoislaw23_awake.j0 k t279 true t260 t261)) = some r := H
  have A8 := Aside0.mk A80
  clear A80
  have HC9 := Aside0.mk H
  clear H
  go_enter Try.func9, Try.ntmps9
  go_upto_region 5 with (first | ((with_reducible refine gate_callee (f := 53) rfl ?_); refine goesL_ (some 10) rfl rfl Try.func53 (by kernel_rfl) rfl #[] rfl (by (try simp only [List.map_toArray, List.map_cons, List.map_nil]); first | done | rfl | (simp only [List.length_drop, List.length_take]; rfl)) ?_; (with_reducible refine (galoislaw23_example.calls  t250 t251 _ A1.out).mono ?_); rintro e w10 ⟨v252, rfl, ho0, hb⟩; refine ⟨_, rfl, ?_⟩; have n0_ := Aside0.mk (Kd.N_lower (Kd.N_mono (ok' := fun k_ => True) ho0 (fun k_ hk_ => trivial)) (below_size (by repeat (first | (with_reducible first | exact HB.out | apply below_alloc | apply pw_below_drewN | apply below_drew1) | exact HB.out)))); have n1_ := Aside0.mk (below_step (by repeat (first | (with_reducible first | exact HB.out | apply below_alloc | apply pw_below_drewN | apply below_drew1) | exact HB.out)) hb); clear HB; have HO253 := n0_; have HB := n1_; clear n0_ n1_; (try clear hb); (try clear hb2); (try clear hk); (try clear hi); (try clear ho0); obtain ⟨Ao11, co11, eo11⟩ := Kd.N_slice HO253.out; subst eo11) | ((with_reducible refine gate_callee (f := 12) rfl ?_); refine goesL_ (some 11) rfl rfl Try.func12 (by kernel_rfl) rfl #[.agg #[.int .i64 t250, .slice Ao11 t251.length co11]] rfl (by (try simp only [List.map_toArray, List.map_cons, List.map_nil]); first | done | rfl | (simp only [List.length_drop, List.length_take]; rfl)) ?_; (with_reducible refine (permgroup_Order.calls k t250 _ _ t251 t254 t255 _ ?side1 ?side2 A2.out).mono ?_); (case side1 => repeat (first | exact (Kd.N_reads' HO253.out).2.2 | (with_reducible refine Kd.C_alloc ?_ _) | (with_reducible refine Kd.C_drewN ?_ _) | (with_reducible refine Kd.C_drew ?_))); (case side2 => exact (Kd.N_reads' HO253.out).2.1); rintro e w12 ⟨rfl, hb⟩; refine ⟨_, rfl, ?_⟩; have n0_ := Aside0.mk (Kd.N_below (by (with_reducible repeat (first | apply Kd.N_alloc | apply Kd.N_drewN | apply Kd.N_drew)); exact HO253.out) hb); have n1_ := Aside0.mk (below_step (by repeat (first | (with_reducible first | exact HB.out | apply below_alloc | apply pw_below_drewN | apply below_drew1) | exact HB.out)) hb); clear HO253; clear HB; have HO253 := n0_; have HB := n1_; clear n0_ n1_; (try clear hb); (try clear hb2); (try clear hk); (try clear hi)) | ((with_reducible refine gate_callee (f := 53) rfl ?_); refine goesL_ (some 15) rfl rfl Try.func53 (by kernel_rfl) rfl #[] rfl (by (try simp only [List.map_toArray, List.map_cons, List.map_nil]); first | done | rfl | (simp only [List.length_drop, List.length_take]; rfl)) ?_; (with_reducible refine (galoislaw23_example.calls  t256 t257 _ A3.out).mono ?_); rintro e w13 ⟨v258, rfl, ho0, hb⟩; refine ⟨_, rfl, ?_⟩; have n0_ := Aside0.mk (Kd.N_elder' (by (with_reducible repeat (first | apply Kd.N_alloc | apply Kd.N_drewN | apply Kd.N_drew)); exact HO253.out) (by first | exact Kd.N_base ho0 | exact Kd.S_base ho0 | exact Kd.R_base ho0) hb); have n1_ := Aside0.mk (Kd.N_lower (Kd.N_mono (ok' := fun k_ => some k_ ≠ (.slice Ao11 t251.length co11 : Value).ownBlock) ho0 (fun k_ hk_ => (Kd.fresh' (Kd.N_lt (by (with_reducible repeat (first | apply Kd.N_alloc | apply Kd.N_drewN | apply Kd.N_drew)); exact HO253.out)) k_ hk_))) (below_size (by repeat (first | (with_reducible first | exact HB.out | apply below_alloc | apply pw_below_drewN | apply below_drew1) | exact HB.out)))); have n2_ := Aside0.mk (below_step (by repeat (first | (with_reducible first | exact HB.out | apply below_alloc | apply pw_below_drewN | apply below_drew1) | exact HB.out)) hb); clear HO253; clear HB; have HO253 := n0_; have HO259 := n1_; have HB := n2_; clear n0_ n1_ n2_; (try clear hb); (try clear hb2); (try clear hk); (try clear hi); (try clear ho0); obtain ⟨Ao14, co14, eo14⟩ := Kd.N_slice HO259.out; subst eo14) | ((with_reducible refine gate_callee (f := 14) rfl ?_); refine goesL_ (some 16) rfl rfl Try.func14 (by kernel_rfl) rfl #[.agg #[.int .i64 t256, .slice Ao14 t257.length co14]] rfl (by (try simp only [List.map_toArray, List.map_cons, List.map_nil]); first | done | rfl | (simp only [List.length_drop, List.length_take]; rfl)) ?_; (with_reducible refine (permgroup_Reduced.calls k t256 _ _ t257 t260 t261 t264 _ ?side1 ?side2 A4.out).mono ?_); (case side1 => repeat (first | exact (Kd.N_reads' HO259.out).2.2 | (with_reducible refine Kd.C_alloc ?_ _) | (with_reducible refine Kd.C_drewN ?_ _) | (with_reducible refine Kd.C_drew ?_))); (case side2 => exact (Kd.N_reads' HO259.out).2.1); rintro e w15 ⟨v262, rfl, ho0, hb⟩; refine ⟨_, rfl, ?_⟩; have n0_ := Aside0.mk (Kd.N_elder' (by (with_reducible repeat (first | apply Kd.N_alloc | apply Kd.N_drewN | apply Kd.N_drew)); exact HO253.out) (by first | exact Kd.N_base ho0 | exact Kd.S_base ho0 | exact Kd.R_base ho0) hb); have n1_ := Aside0.mk (Kd.N_elder' (by (with_reducible repeat (first | apply Kd.N_alloc | apply Kd.N_drewN | apply Kd.N_drew)); exact HO259.out) (by first | exact Kd.N_base ho0 | exact Kd.S_base ho0 | exact Kd.R_base ho0) hb); have n2_ := Aside0.mk (Kd.N_lower (Kd.N_mono (ok' := fun k_ => some k_ ≠ (.slice Ao11 t251.length co11 : Value).ownBlock ∧ some k_ ≠ (.slice Ao14 t257.length co14 : Value).ownBlock) (Kd.S_N (Kd.S_bound ho0)) (fun k_ hk_ => ⟨(Kd.fresh' (Kd.N_lt (by (with_reducible repeat (first | apply Kd.N_alloc | apply Kd.N_drewN | apply Kd.N_drew)); exact HO253.out)) k_ hk_.2.1), (Kd.fresh' (Kd.N_lt (by (with_reducible repeat (first | apply Kd.N_alloc | apply Kd.N_drewN | apply Kd.N_drew)); exact HO259.out)) k_ hk_.2.1)⟩)) (below_size (by repeat (first | (with_reducible first | exact HB.out | apply below_alloc | apply pw_below_drewN | apply below_drew1) | exact HB.out)))); have n3_ := Aside0.mk (below_step (by repeat (first | (with_reducible first | exact HB.out | apply below_alloc | apply pw_below_drewN | apply below_drew1) | exact HB.out)) hb); clear HO253; clear HO259; clear HB; have HO253 := n0_; have HO259 := n1_; have HO263 := n2_; have HB := n3_; clear n0_ n1_ n2_ n3_; (try clear hb); (try clear hb2); (try clear hk); (try clear hi); (try clear ho0)) | ((with_reducible refine gate_dst (N := 3) rfl ?_); (try (refine gate_guard (by rfl) ?_; dsimp only)); refine box_event ?hg (N := 3) ?hd (cs := #[.int .i64 0, .slice none 0 0]) (t := 24) ?hr ?_; (case hd => rfl); (case hg => rfl); (case hr => first | (go_simp; done) | (go_simp; rfl)); intro gb265 hg w16 hbox hb; have n0_ := Aside0.mk (Kd.N_below (Kd.N_elderB (by (with_reducible repeat (first | apply Kd.N_alloc | apply Kd.N_drewN | apply Kd.N_drew)); exact HO253.out) gb265 (Nat.le_of_eq hg.symm)) hb); have n1_ := Aside0.mk (Kd.N_below (Kd.N_elderB (by (with_reducible repeat (first | apply Kd.N_alloc | apply Kd.N_drewN | apply Kd.N_drew)); exact HO259.out) gb265 (Nat.le_of_eq hg.symm)) hb); have n2_ := Aside0.mk (Kd.N_below (Kd.N_elderB (by (with_reducible repeat (first | apply Kd.N_alloc | apply Kd.N_drewN | apply Kd.N_drew)); exact HO263.out) gb265 (Nat.le_of_eq hg.symm)) hb); have n3_ := Aside0.mk (below_step (by repeat (first | (with_reducible first | exact HB.out | apply below_alloc | apply pw_below_drewN | apply below_drew1) | exact HB.out)) hb); have n4_ := Aside0.mk (hbox); have n5_ := Aside0.mk ((by rw [hg]; exact (below_size (by repeat (first | (with_reducible first | exact HB.out | apply below_alloc | apply pw_below_drewN | apply below_drew1) | exact HB.out))) : w.heap.size ≤ gb265)); have n6_ := Aside0.mk ((by rw [hg]; exact (below_size (by repeat (first | (with_reducible first | exact HB.out | apply below_alloc | apply pw_below_drewN | apply below_drew1) | exact HB.out))) : w.heap.size ≤ gb265)); clear HO253; clear HO259; clear HO263; clear HB; have HO253 := n0_; have HO259 := n1_; have HO263 := n2_; have HB := n3_; have BK265 := n4_; have GW265 := n5_; have GE265 := n6_; clear n0_ n1_ n2_ n3_ n4_ n5_ n6_; clear hb hbox hg; have hcz17_0 : w16.cell? ⟨gb265, 0, none⟩ = some (.int .i64 0) := (blk_cell BK265.out 0).trans rfl; have hcz17_1 : w16.cell? ⟨gb265, 1, none⟩ = some (.slice none 0 0) := (blk_cell BK265.out 1).trans rfl; have hfz17_0 := blk_frozen BK265.out 0; have hfz17_1 := blk_frozen BK265.out 1; obtain ⟨Ao18, co18, eo18⟩ := Kd.N_slice HO263.out; subst eo18) | ((with_reducible refine gate_callee (f := 53) rfl ?_); refine goesL_ (some 20) rfl rfl Try.func53 (by kernel_rfl) rfl #[] rfl (by (try simp only [List.map_toArray, List.map_cons, List.map_nil]); first | done | rfl | (simp only [List.length_drop, List.length_take]; rfl)) ?_; (with_reducible refine (galoislaw23_example.calls  t266 t267 _ A5.out).mono ?_); rintro e w19 ⟨v268, rfl, ho0, hb⟩; refine ⟨_, rfl, ?_⟩; have n0_ := Aside0.mk (Kd.N_elder' (by (with_reducible repeat (first | apply Kd.N_alloc | apply Kd.N_drewN | apply Kd.N_drew)); exact (Kd.N_mono (Kd.N_far (p := ⟨gb265, 1, none⟩) (Kd.N_far (p := ⟨gb265, 0, none⟩) (Kd.N_mono HO253.out (fun k_ hk => (⟨hk, hk.2⟩ : _ ∧ k_ ≠ gb265))) (fun _ hk => hk.2) (.int .i64 t260)) (fun _ hk => hk.2) (.slice Ao18 t261.length co18)) (fun _ h_ => h_.1))) (by first | exact Kd.N_base ho0 | exact Kd.S_base ho0 | exact Kd.R_base ho0) hb); have n1_ := Aside0.mk (Kd.N_elder' (by (with_reducible repeat (first | apply Kd.N_alloc | apply Kd.N_drewN | apply Kd.N_drew)); exact (Kd.N_mono (Kd.N_far (p := ⟨gb265, 1, none⟩) (Kd.N_far (p := ⟨gb265, 0, none⟩) (Kd.N_mono HO259.out (fun k_ hk => (⟨hk, hk.2⟩ : _ ∧ k_ ≠ gb265))) (fun _ hk => hk.2) (.int .i64 t260)) (fun _ hk => hk.2) (.slice Ao18 t261.length co18)) (fun _ h_ => h_.1))) (by first | exact Kd.N_base ho0 | exact Kd.S_base ho0 | exact Kd.R_base ho0) hb); have n2_ := Aside0.mk (Kd.N_elder' (by (with_reducible repeat (first | apply Kd.N_alloc | apply Kd.N_drewN | apply Kd.N_drew)); exact (Kd.N_mono (Kd.N_far (p := ⟨gb265, 1, none⟩) (Kd.N_far (p := ⟨gb265, 0, none⟩) (Kd.N_mono HO263.out (fun k_ hk => (⟨hk, hk.2⟩ : _ ∧ k_ ≠ gb265))) (fun _ hk => hk.2) (.int .i64 t260)) (fun _ hk => hk.2) (.slice Ao18 t261.length co18)) (fun _ h_ => h_.1))) (by first | exact Kd.N_base ho0 | exact Kd.S_base ho0 | exact Kd.R_base ho0) hb); have n3_ := Aside0.mk (Kd.N_lower (Kd.N_mono (ok' := fun k_ => some k_ ≠ (.slice Ao11 t251.length co11 : Value).ownBlock ∧ some k_ ≠ (.slice Ao14 t257.length co14 : Value).ownBlock ∧ some k_ ≠ (.slice Ao18 t261.length co18 : Value).ownBlock ∧ k_ ≠ gb265) ho0 (fun k_ hk_ => ⟨(Kd.fresh' (Kd.N_lt (by (with_reducible repeat (first | apply Kd.N_alloc | apply Kd.N_drewN | apply Kd.N_drew)); exact (Kd.N_mono (Kd.N_far (p := ⟨gb265, 1, none⟩) (Kd.N_far (p := ⟨gb265, 0, none⟩) (Kd.N_mono HO253.out (fun k_ hk => (⟨hk, hk.2⟩ : _ ∧ k_ ≠ gb265))) (fun _ hk => hk.2) (.int .i64 t260)) (fun _ hk => hk.2) (.slice Ao18 t261.length co18)) (fun _ h_ => h_.1)))) k_ hk_), (Kd.fresh' (Kd.N_lt (by (with_reducible repeat (first | apply Kd.N_alloc | apply Kd.N_drewN | apply Kd.N_drew)); exact (Kd.N_mono (Kd.N_far (p := ⟨gb265, 1, none⟩) (Kd.N_far (p := ⟨gb265, 0, none⟩) (Kd.N_mono HO259.out (fun k_ hk => (⟨hk, hk.2⟩ : _ ∧ k_ ≠ gb265))) (fun _ hk => hk.2) (.int .i64 t260)) (fun _ hk => hk.2) (.slice Ao18 t261.length co18)) (fun _ h_ => h_.1)))) k_ hk_), (Kd.fresh' (Kd.N_lt (by (with_reducible repeat (first | apply Kd.N_alloc | apply Kd.N_drewN | apply Kd.N_drew)); exact (Kd.N_mono (Kd.N_far (p := ⟨gb265, 1, none⟩) (Kd.N_far (p := ⟨gb265, 0, none⟩) (Kd.N_mono HO263.out (fun k_ hk => (⟨hk, hk.2⟩ : _ ∧ k_ ≠ gb265))) (fun _ hk => hk.2) (.int .i64 t260)) (fun _ hk => hk.2) (.slice Ao18 t261.length co18)) (fun _ h_ => h_.1)))) k_ hk_), (Kd.freshB (g := gb265) (o := .cells #[.int .i64 t260, .slice Ao18 t261.length co18] 24 (0, 0)) (by (with_reducible repeat (first | refine blk_drewN ?_ _ | refine blk_drew ?_ | refine blk_alloc ?_ _)); refine blk_put (cs := #[.int .i64 t260, .slice none 0 0]) ?_ 1 _ rfl; (with_reducible repeat (first | refine blk_drewN ?_ _ | refine blk_drew ?_ | refine blk_alloc ?_ _)); refine blk_put (cs := #[.int .i64 0, .slice none 0 0]) ?_ 0 _ rfl; (with_reducible repeat (first | refine blk_drewN ?_ _ | refine blk_drew ?_ | refine blk_alloc ?_ _)); exact BK265.out) k_ hk_)⟩)) (below_size (by repeat (first | (with_reducible first | exact HB.out | apply below_alloc | apply pw_below_drewN | apply below_drew1 | refine below_set ?_ GE265.out) | exact HB.out)))); have n4_ := Aside0.mk (blk_below (g := gb265) (o := .cells #[.int .i64 t260, .slice Ao18 t261.length co18] 24 (0, 0)) (by (with_reducible repeat (first | refine blk_drewN ?_ _ | refine blk_drew ?_ | refine blk_alloc ?_ _)); refine blk_put (cs := #[.int .i64 t260, .slice none 0 0]) ?_ 1 _ rfl; (with_reducible repeat (first | refine blk_drewN ?_ _ | refine blk_drew ?_ | refine blk_alloc ?_ _)); refine blk_put (cs := #[.int .i64 0, .slice none 0 0]) ?_ 0 _ rfl; (with_reducible repeat (first | refine blk_drewN ?_ _ | refine blk_drew ?_ | refine blk_alloc ?_ _)); exact BK265.out) hb); have n5_ := Aside0.mk (below_step (by repeat (first | (with_reducible first | exact HB.out | apply below_alloc | apply pw_below_drewN | apply below_drew1 | refine below_set ?_ GE265.out) | exact HB.out)) hb); clear HO253; clear HO259; clear HO263; clear BK265; clear HB; have HO253 := n0_; have HO259 := n1_; have HO263 := n2_; have HO269 := n3_; have BK265 := n4_; have HB := n5_; clear n0_ n1_ n2_ n3_ n4_ n5_; (try clear hb); (try clear hb2); (try clear hk); (try clear hi); (try clear ho0)) | ((with_reducible refine gate_dst (N := 21) rfl ?_); (try (refine gate_guard (by rfl) ?_; dsimp only)); refine Kd.R_lit (Kd.int .i64) _ 3 ?hg (N := 21) ?hd (xs := ([1, 2, 3, 0] : List Int)) (inner := [.int .i64 1, .int .i64 2, .int .i64 3, .int .i64 0]) (ok := fun _ => True) (okp := fun _ => True) ?hr ?hp (fun _ hk => hk) trivial (Below.refl _ _) (Nat.le_refl _) (by simp) ?_; (case hd => rfl); (case hg => rfl); (case hr => first | (go_simp; done) | (go_simp; rfl)); (case hp => exact (Reps.one (show Kd.M (Kd.int .i64) _ _ _ 1 [.int .i64 1] from rfl) (Reps.one (show Kd.M (Kd.int .i64) _ _ _ 2 [.int .i64 2] from rfl) (Reps.one (show Kd.M (Kd.int .i64) _ _ _ 3 [.int .i64 3] from rfl) (Reps.one (show Kd.M (Kd.int .i64) _ _ _ 0 [.int .i64 0] from rfl) (Reps.none _ _)))))); intro v271 w20 ho21 hb hg_ hnew_; clear hg_ hnew_; (first | rw [← Ny270.out] at ho21 | (simp only [Int.reduceToNat] at ho21; rw [← Ny270.out] at ho21)); have n0_ := Aside0.mk (Kd.N_elder' (by (with_reducible repeat (first | apply Kd.N_alloc | apply Kd.N_drewN | apply Kd.N_drew)); exact HO253.out) (Kd.R_base ho21) hb); have n1_ := Aside0.mk (Kd.N_elder' (by (with_reducible repeat (first | apply Kd.N_alloc | apply Kd.N_drewN | apply Kd.N_drew)); exact HO259.out) (Kd.R_base ho21) hb); have n2_ := Aside0.mk (Kd.N_elder' (by (with_reducible repeat (first | apply Kd.N_alloc | apply Kd.N_drewN | apply Kd.N_drew)); exact HO263.out) (Kd.R_base ho21) hb); have n3_ := Aside0.mk (Kd.N_elder' (by (with_reducible repeat (first | apply Kd.N_alloc | apply Kd.N_drewN | apply Kd.N_drew)); exact HO269.out) (Kd.R_base ho21) hb); have n4_ := Aside0.mk (Kd.R_lower ho21 (below_size (by repeat (first | (with_reducible first | exact HB.out | apply below_alloc | apply pw_below_drewN | apply below_drew1 | refine below_set ?_ GE265.out) | exact HB.out)))); have n5_ := Aside0.mk (blk_below (g := gb265) (o := .cells #[.int .i64 t260, .slice Ao18 t261.length co18] 24 (0, 0)) (by (with_reducible repeat (first | refine blk_drewN ?_ _ | refine blk_drew ?_ | refine blk_alloc ?_ _)); exact BK265.out) hb); have n6_ := Aside0.mk (below_step (by repeat (first | (with_reducible first | exact HB.out | apply below_alloc | apply pw_below_drewN | apply below_drew1 | refine below_set ?_ GE265.out) | exact HB.out)) hb); clear HO253; clear HO259; clear HO263; clear HO269; clear BK265; clear HB; have HO253 := n0_; have HO259 := n1_; have HO263 := n2_; have HO269 := n3_; have HO272 := n4_; have BK265 := n5_; have HB := n6_; clear n0_ n1_ n2_ n3_ n4_ n5_ n6_; clear hb ho21; obtain ⟨Ao22, co22, eo22⟩ := Kd.N_slice HO269.out; subst eo22; obtain ⟨Ao23, co23, eo23⟩ := Kd.R_slice HO272.out; subst eo23) | ((with_reducible refine gate_callee (f := 25) rfl ?_); refine goesL_ (some 22) rfl rfl Try.func25 (by kernel_rfl) rfl #[.agg #[.int .i64 t266, .slice Ao22 t267.length co22], .slice Ao23 y270.length co23] rfl (by (try simp only [List.map_toArray, List.map_cons, List.map_nil]); first | done | rfl | (simp only [List.length_drop, List.length_take]; rfl)) ?_; (with_reducible refine (permgroup_Index.calls k t266 _ _ t267 _ _ y270 t273 t274 _ ?side1 ?side2 ?side3 ?side4 A6.out).mono ?_); (case side1 => repeat (first | exact (Kd.N_reads' HO269.out).2.2 | (with_reducible refine Kd.C_alloc ?_ _) | (with_reducible refine Kd.C_drewN ?_ _) | (with_reducible refine Kd.C_drew ?_))); (case side2 => exact (Kd.N_reads' HO269.out).2.1); (case side3 => repeat (first | exact (Kd.R_reads' HO272.out).2.2 | (with_reducible refine Kd.C_alloc ?_ _) | (with_reducible refine Kd.C_drewN ?_ _) | (with_reducible refine Kd.C_drew ?_))); (case side4 => exact (Kd.R_reads' HO272.out).2.1); rintro e w24 ⟨rfl, hb⟩; refine ⟨_, rfl, ?_⟩; have n0_ := Aside0.mk (Kd.N_below (by (with_reducible repeat (first | apply Kd.N_alloc | apply Kd.N_drewN | apply Kd.N_drew)); exact HO253.out) hb); have n1_ := Aside0.mk (Kd.N_below (by (with_reducible repeat (first | apply Kd.N_alloc | apply Kd.N_drewN | apply Kd.N_drew)); exact HO259.out) hb); have n2_ := Aside0.mk (Kd.N_below (by (with_reducible repeat (first | apply Kd.N_alloc | apply Kd.N_drewN | apply Kd.N_drew)); exact HO263.out) hb); have n3_ := Aside0.mk (Kd.N_below (by (with_reducible repeat (first | apply Kd.N_alloc | apply Kd.N_drewN | apply Kd.N_drew)); exact HO269.out) hb); have n4_ := Aside0.mk (Kd.R_below (by (with_reducible repeat (first | apply Kd.R_alloc | apply Kd.R_drewN | apply Kd.R_drew)); exact HO272.out) hb); have n5_ := Aside0.mk (blk_below (g := gb265) (o := .cells #[.int .i64 t260, .slice Ao18 t261.length co18] 24 (0, 0)) (by (with_reducible repeat (first | refine blk_drewN ?_ _ | refine blk_drew ?_ | refine blk_alloc ?_ _)); exact BK265.out) hb); have n6_ := Aside0.mk (below_step (by repeat (first | (with_reducible first | exact HB.out | apply below_alloc | apply pw_below_drewN | apply below_drew1 | refine below_set ?_ GE265.out) | exact HB.out)) hb); clear HO253; clear HO259; clear HO263; clear HO269; clear HO272; clear BK265; clear HB; have HO253 := n0_; have HO259 := n1_; have HO263 := n2_; have HO269 := n3_; have HO272 := n4_; have BK265 := n5_; have HB := n6_; clear n0_ n1_ n2_ n3_ n4_ n5_ n6_; (try clear hb); (try clear hb2); (try clear hk); (try clear hi)) | ((with_reducible refine gate_callee (f := 53) rfl ?_); refine goesL_ (some 26) rfl rfl Try.func53 (by kernel_rfl) rfl #[] rfl (by (try simp only [List.map_toArray, List.map_cons, List.map_nil]); first | done | rfl | (simp only [List.length_drop, List.length_take]; rfl)) ?_; (with_reducible refine (galoislaw23_example.calls  t275 t276 _ A7.out).mono ?_); rintro e w25 ⟨v277, rfl, ho0, hb⟩; refine ⟨_, rfl, ?_⟩; have n0_ := Aside0.mk (Kd.N_elder' (by (with_reducible repeat (first | apply Kd.N_alloc | apply Kd.N_drewN | apply Kd.N_drew)); exact HO253.out) (by first | exact Kd.N_base ho0 | exact Kd.S_base ho0 | exact Kd.R_base ho0) hb); have n1_ := Aside0.mk (Kd.N_elder' (by (with_reducible repeat (first | apply Kd.N_alloc | apply Kd.N_drewN | apply Kd.N_drew)); exact HO259.out) (by first | exact Kd.N_base ho0 | exact Kd.S_base ho0 | exact Kd.R_base ho0) hb); have n2_ := Aside0.mk (Kd.N_elder' (by (with_reducible repeat (first | apply Kd.N_alloc | apply Kd.N_drewN | apply Kd.N_drew)); exact HO263.out) (by first | exact Kd.N_base ho0 | exact Kd.S_base ho0 | exact Kd.R_base ho0) hb); have n3_ := Aside0.mk (Kd.N_elder' (by (with_reducible repeat (first | apply Kd.N_alloc | apply Kd.N_drewN | apply Kd.N_drew)); exact HO269.out) (by first | exact Kd.N_base ho0 | exact Kd.S_base ho0 | exact Kd.R_base ho0) hb); have n4_ := Aside0.mk (Kd.R_below (by (with_reducible repeat (first | apply Kd.R_alloc | apply Kd.R_drewN | apply Kd.R_drew)); exact HO272.out) hb); have n5_ := Aside0.mk (Kd.N_lower (Kd.N_mono (ok' := fun k_ => some k_ ≠ (.slice Ao11 t251.length co11 : Value).ownBlock ∧ some k_ ≠ (.slice Ao14 t257.length co14 : Value).ownBlock ∧ some k_ ≠ (.slice Ao18 t261.length co18 : Value).ownBlock ∧ some k_ ≠ (.slice Ao22 t267.length co22 : Value).ownBlock ∧ some k_ ≠ (.slice Ao23 y270.length co23 : Value).ownBlock ∧ k_ ≠ gb265) ho0 (fun k_ hk_ => ⟨(Kd.fresh' (Kd.N_lt (by (with_reducible repeat (first | apply Kd.N_alloc | apply Kd.N_drewN | apply Kd.N_drew)); exact HO253.out)) k_ hk_), (Kd.fresh' (Kd.N_lt (by (with_reducible repeat (first | apply Kd.N_alloc | apply Kd.N_drewN | apply Kd.N_drew)); exact HO259.out)) k_ hk_), (Kd.fresh' (Kd.N_lt (by (with_reducible repeat (first | apply Kd.N_alloc | apply Kd.N_drewN | apply Kd.N_drew)); exact HO263.out)) k_ hk_), (Kd.fresh' (Kd.N_lt (by (with_reducible repeat (first | apply Kd.N_alloc | apply Kd.N_drewN | apply Kd.N_drew)); exact HO269.out)) k_ hk_), (Kd.fresh' (Kd.R_lt (by (with_reducible repeat (first | apply Kd.R_alloc | apply Kd.R_drewN | apply Kd.R_drew)); exact HO272.out)) k_ hk_), (Kd.freshB (g := gb265) (o := .cells #[.int .i64 t260, .slice Ao18 t261.length co18] 24 (0, 0)) (by (with_reducible repeat (first | refine blk_drewN ?_ _ | refine blk_drew ?_ | refine blk_alloc ?_ _)); exact BK265.out) k_ hk_)⟩)) (below_size (by repeat (first | (with_reducible first | exact HB.out | apply below_alloc | apply pw_below_drewN | apply below_drew1 | refine below_set ?_ GE265.out) | exact HB.out)))); have n6_ := Aside0.mk (blk_below (g := gb265) (o := .cells #[.int .i64 t260, .slice Ao18 t261.length co18] 24 (0, 0)) (by (with_reducible repeat (first | refine blk_drewN ?_ _ | refine blk_drew ?_ | refine blk_alloc ?_ _)); exact BK265.out) hb); have n7_ := Aside0.mk (below_step (by repeat (first | (with_reducible first | exact HB.out | apply below_alloc | apply pw_below_drewN | apply below_drew1 | refine below_set ?_ GE265.out) | exact HB.out)) hb); clear HO253; clear HO259; clear HO263; clear HO269; clear HO272; clear BK265; clear HB; have HO253 := n0_; have HO259 := n1_; have HO263 := n2_; have HO269 := n3_; have HO272 := n4_; have HO278 := n5_; have BK265 := n6_; have HB := n7_; clear n0_ n1_ n2_ n3_ n4_ n5_ n6_ n7_; (try clear hb); (try clear hb2); (try clear hk); (try clear hi); (try clear ho0); obtain ⟨Ao26, co26, eo26⟩ := Kd.N_slice HO278.out; subst eo26) | ((with_reducible refine gate_callee (f := 15) rfl ?_); refine goesL_ (some 27) rfl rfl Try.func15 (by kernel_rfl) rfl #[.agg #[.int .i64 t275, .slice Ao26 t276.length co26]] rfl (by (try simp only [List.map_toArray, List.map_cons, List.map_nil]); first | done | rfl | (simp only [List.length_drop, List.length_take]; rfl)) ?_; (with_reducible refine (permgroup_Chain.calls k t275 _ _ t276 t279 t282 _ ?side1 ?side2 A8.out).mono ?_); (case side1 => repeat (first | exact (Kd.N_reads' HO278.out).2.2 | (with_reducible refine Kd.C_alloc ?_ _) | (with_reducible refine Kd.C_drewN ?_ _) | (with_reducible refine Kd.C_drew ?_))); (case side2 => exact (Kd.N_reads' HO278.out).2.1); rintro e w27 ⟨v280, rfl, ho0, hb⟩; refine ⟨_, rfl, ?_⟩; have n0_ := Aside0.mk (Kd.N_elder' (by (with_reducible repeat (first | apply Kd.N_alloc | apply Kd.N_drewN | apply Kd.N_drew)); exact HO253.out) (by first | exact Kd.N_base ho0 | exact Kd.S_base ho0 | exact Kd.R_base ho0) hb); have n1_ := Aside0.mk (Kd.N_elder' (by (with_reducible repeat (first | apply Kd.N_alloc | apply Kd.N_drewN | apply Kd.N_drew)); exact HO259.out) (by first | exact Kd.N_base ho0 | exact Kd.S_base ho0 | exact Kd.R_base ho0) hb); have n2_ := Aside0.mk (Kd.N_elder' (by (with_reducible repeat (first | apply Kd.N_alloc | apply Kd.N_drewN | apply Kd.N_drew)); exact HO263.out) (by first | exact Kd.N_base ho0 | exact Kd.S_base ho0 | exact Kd.R_base ho0) hb); have n3_ := Aside0.mk (Kd.N_elder' (by (with_reducible repeat (first | apply Kd.N_alloc | apply Kd.N_drewN | apply Kd.N_drew)); exact HO269.out) (by first | exact Kd.N_base ho0 | exact Kd.S_base ho0 | exact Kd.R_base ho0) hb); have n4_ := Aside0.mk (Kd.R_below (by (with_reducible repeat (first | apply Kd.R_alloc | apply Kd.R_drewN | apply Kd.R_drew)); exact HO272.out) hb); have n5_ := Aside0.mk (Kd.N_elder' (by (with_reducible repeat (first | apply Kd.N_alloc | apply Kd.N_drewN | apply Kd.N_drew)); exact HO278.out) (by first | exact Kd.N_base ho0 | exact Kd.S_base ho0 | exact Kd.R_base ho0) hb); have n6_ := Aside0.mk (Kd.N_lower (Kd.N_mono (ok' := fun k_ => some k_ ≠ (.slice Ao11 t251.length co11 : Value).ownBlock ∧ some k_ ≠ (.slice Ao14 t257.length co14 : Value).ownBlock ∧ some k_ ≠ (.slice Ao18 t261.length co18 : Value).ownBlock ∧ some k_ ≠ (.slice Ao22 t267.length co22 : Value).ownBlock ∧ some k_ ≠ (.slice Ao23 y270.length co23 : Value).ownBlock ∧ some k_ ≠ (.slice Ao26 t276.length co26 : Value).ownBlock ∧ k_ ≠ gb265) (Kd.R_N (Kd.R_bound ho0)) (fun k_ hk_ => ⟨(Kd.fresh' (Kd.N_lt (by (with_reducible repeat (first | apply Kd.N_alloc | apply Kd.N_drewN | apply Kd.N_drew)); exact HO253.out)) k_ hk_.2.1), (Kd.fresh' (Kd.N_lt (by (with_reducible repeat (first | apply Kd.N_alloc | apply Kd.N_drewN | apply Kd.N_drew)); exact HO259.out)) k_ hk_.2.1), (Kd.fresh' (Kd.N_lt (by (with_reducible repeat (first | apply Kd.N_alloc | apply Kd.N_drewN | apply Kd.N_drew)); exact HO263.out)) k_ hk_.2.1), (Kd.fresh' (Kd.N_lt (by (with_reducible repeat (first | apply Kd.N_alloc | apply Kd.N_drewN | apply Kd.N_drew)); exact HO269.out)) k_ hk_.2.1), (Kd.fresh' (Kd.R_lt (by (with_reducible repeat (first | apply Kd.R_alloc | apply Kd.R_drewN | apply Kd.R_drew)); exact HO272.out)) k_ hk_.2.1), (Kd.fresh' (Kd.N_lt (by (with_reducible repeat (first | apply Kd.N_alloc | apply Kd.N_drewN | apply Kd.N_drew)); exact HO278.out)) k_ hk_.2.1), (Kd.freshB (g := gb265) (o := .cells #[.int .i64 t260, .slice Ao18 t261.length co18] 24 (0, 0)) (by (with_reducible repeat (first | refine blk_drewN ?_ _ | refine blk_drew ?_ | refine blk_alloc ?_ _)); exact BK265.out) k_ hk_.2.1)⟩)) (below_size (by repeat (first | (with_reducible first | exact HB.out | apply below_alloc | apply pw_below_drewN | apply below_drew1 | refine below_set ?_ GE265.out) | exact HB.out)))); have n7_ := Aside0.mk (blk_below (g := gb265) (o := .cells #[.int .i64 t260, .slice Ao18 t261.length co18] 24 (0, 0)) (by (with_reducible repeat (first | refine blk_drewN ?_ _ | refine blk_drew ?_ | refine blk_alloc ?_ _)); exact BK265.out) hb); have n8_ := Aside0.mk (below_step (by repeat (first | (with_reducible first | exact HB.out | apply below_alloc | apply pw_below_drewN | apply below_drew1 | refine below_set ?_ GE265.out) | exact HB.out)) hb); clear HO253; clear HO259; clear HO263; clear HO269; clear HO272; clear HO278; clear BK265; clear HB; have HO253 := n0_; have HO259 := n1_; have HO263 := n2_; have HO269 := n3_; have HO272 := n4_; have HO278 := n5_; have HO281 := n6_; have BK265 := n7_; have HB := n8_; clear n0_ n1_ n2_ n3_ n4_ n5_ n6_ n7_ n8_; (try clear hb); (try clear hb2); (try clear hk); (try clear hi); (try clear ho0)))
  (try simp only [Act.put, List.setIfInBounds_toArray, List.set_cons_zero, List.set_cons_succ])
  go_cut [63] (fun v63 wc => ∃ (kq : Nat) (x63_8 : Bool), v63 = .bool x63_8 ∧ Aside0 (galoislaw23_awake.j0 kq t279 x63_8 t260 t261 = some r) ∧ Aside0 (kq ≤ k) ∧ Aside0 (Kd.N k66 66 wc w.heap.size (fun k_ => some k_ ≠ ((.slice Ao18 t261.length co18) : Value).ownBlock ∧ k_ ≠ gb265) v280 t279) ∧ Aside0 (Kd.N (Kd.slice 3 (Kd.int .i64)) 47 wc w.heap.size (fun k_ => some k_ ≠ (v280 : Value).ownBlock ∧ k_ ≠ gb265) (.slice Ao18 t261.length co18) t261) ∧ Aside0 (wc.heap[gb265]? = some (.cells #[.int .i64 t260, (.slice Ao18 t261.length co18)] 24 (0, 0))) ∧ Aside0 (Below w.heap.size w wc))
  case first =>
    have H := HC9.out
    clear HC9
    by_cases c28 : t255 = 0
    · rw [if_pos c28] at H
      have c28b0 : (t255 == 0) = true := beq_iff_eq.mpr c28
      have c28b1 : (t255 != 0) = false := bne_eq_false_iff_eq.mpr c28
      clear c28
      (first | rw [c28b0] | (simp only [i64_w, i32_w]; rw [c28b0]) | skip)
      by_cases c29 : t254 = 8
      · rw [if_pos c29] at H
        have c29b0 : (t254 == 8) = true := beq_iff_eq.mpr c29
        have c29b1 : (t254 != 8) = false := bne_eq_false_iff_eq.mpr c29
        clear c29
        by_cases c30 : t264 = 0
        · rw [if_pos c30] at H
          have c30b0 : (t264 == 0) = true := beq_iff_eq.mpr c30
          have c30b1 : (t264 != 0) = false := bne_eq_false_iff_eq.mpr c30
          clear c30
          by_cases c31 : t274 = 0
          · rw [if_pos c31] at H
            have c31b0 : (t274 == 0) = true := beq_iff_eq.mpr c31
            have c31b1 : (t274 != 0) = false := bne_eq_false_iff_eq.mpr c31
            clear c31
            by_cases c32 : t273 = 3
            · rw [if_pos c32] at H
              have c32b0 : (t273 == 3) = true := beq_iff_eq.mpr c32
              have c32b1 : (t273 != 3) = false := bne_eq_false_iff_eq.mpr c32
              clear c32
              by_cases c33 : t282 = 0
              · rw [if_pos c33] at H
                have c33b0 : (t282 == 0) = true := beq_iff_eq.mpr c33
                have c33b1 : (t282 != 0) = false := bne_eq_false_iff_eq.mpr c33
                clear c33
                by_cases c34 : (t279.length : Int) = 2
                · rw [if_pos c34] at H
                  have c34b0 : ((t279.length : Int) == 2) = true := beq_iff_eq.mpr c34
                  have c34b1 : ((t279.length : Int) != 2) = false := bne_eq_false_iff_eq.mpr c34
                  clear c34
                  by_cases c35 : 1 < (t279.length : Int)
                  · rw [if_pos c35] at H
                    have c35b0 : decide (1 < (t279.length : Int)) = true := decide_eq_true c35
                    have c35b1 : decide (1 < t279.length) = true := decide_eq_true (by omega)
                    clear c35
                    have H' := Aside0.mk H
                    clear H
                    obtain ⟨Ao36, co36, eo36⟩ := Kd.N_slice HO281.out
                    subst eo36
                    have p283 : 0 ≤ (1 : Int) := (by omega)
                    have q283 : 1 < (t279.length : Int) := of_decide_eq_true (by first | (with_reducible assumption) | assumption)
                    obtain ⟨ad283, A283_1, c283_1, A283_2, c283_2, e283, hx283_0, hx283_1, hx283_2, hl283_1, hi283_1, hl283_2, hi283_2⟩ := at_T66 (Kd.N_reads' HO281.out).2.2 1 p283 q283
                    cases e283
                    obtain ⟨ce283, hce283, hMe283, hcc283⟩ := Kd.N_get HO281.out z66 1 p283 (by first | exact q283 | exact of_decide_eq_true (by first | (with_reducible assumption) | assumption) | (have e_ := (Kd.N_reads' HO281.out).1; omega))
                    obtain ⟨ua283_1, uc283_1, ua283_2, uc283_2, rfl, ul283_1, ge283_1, ul283_2, ge283_2⟩ := k66_openF hMe283
                    have hv283_1 := hcc283 1 _ rfl
                    rw [add_field _ _ 1 (by omega)] at hv283_1
                    replace hv283_1 := Option.some.inj (hv283_1.symm.trans hx283_1)
                    injection hv283_1 with hva_ hvn_ hvc_
                    rw [hva_] at ge283_1
                    rw [hvc_] at ul283_1
                    have HL283_1 := Aside0.mk (show Kd.V (Kd.int .i64) 3 _ w.heap.size _ _ ((rd_T66 t279 1).f1) from Kd.V_mk ul283_1 ge283_1)
                    clear hva_ hvn_ hvc_ ge283_1 ul283_1
                    have hv283_2 := hcc283 2 _ rfl
                    rw [add_field _ _ 2 (by omega)] at hv283_2
                    replace hv283_2 := Option.some.inj (hv283_2.symm.trans hx283_2)
                    injection hv283_2 with hva_ hvn_ hvc_
                    rw [hva_] at ge283_2
                    rw [hvc_] at ul283_2
                    have HL283_2 := Aside0.mk (show Kd.V (Kd.slice 3 (Kd.int .i64)) 47 _ w.heap.size _ _ ((rd_T66 t279 1).f2) from Kd.V_mk ul283_2 ge283_2)
                    clear hva_ hvn_ hvc_ ge283_2 ul283_2
                    clear hcc283 hce283
                    (try simp only [show (1 : Int).toNat = 1 from rfl, Nat.reduceMul, Nat.reduceEqDiff, Go.Addr.add, ↓reduceIte] at hx283_0)
                    (try simp only [show (1 : Int).toNat = 1 from rfl, Nat.reduceMul, Nat.reduceEqDiff, Go.Addr.add, ↓reduceIte] at hx283_1)
                    (try simp only [show (1 : Int).toNat = 1 from rfl, Nat.reduceMul, Nat.reduceEqDiff, Go.Addr.add, ↓reduceIte] at hx283_2)
                    have qi283 : (1 < t279.length) = True := eq_true (by omega)
                    (try rw [show ((1 : Int)).toNat = 1 from rfl] at hx283_0)
                    (try rw [show 1 * 3 = 3 from rfl] at hx283_0)
                    (try rw [show ((1 : Int)).toNat = 1 from rfl] at hx283_1)
                    (try rw [show 1 * 3 = 3 from rfl] at hx283_1)
                    (try rw [show ((1 : Int)).toNat = 1 from rfl] at hx283_2)
                    (try rw [show 1 * 3 = 3 from rfl] at hx283_2)
                    have HR283_1 := Aside0.mk hi283_1
                    have HC283_1 := Aside0.mk hl283_1
                    clear hi283_1 hl283_1
                    have HR283_2 := Aside0.mk hi283_2
                    have HC283_2 := Aside0.mk hl283_2
                    clear hi283_2 hl283_2
                    replace p283 := eq_true p283
                    replace q283 := eq_true q283
                    go_wp2
                    go_meet
                    case rel => exact ⟨_, ((((rd_T66 t279 1).f0) != 1)), (by first | rfl | (simp; done) | (simp [*]; done)), H', ⟨by first | omega | exact Nat.le_refl _⟩, ⟨by (with_reducible repeat (first | apply Kd.N_alloc | apply Kd.N_drewN | apply Kd.N_drew)); exact Kd.N_mono HO281.out (fun _ hk => ⟨hk.2.2.1, hk.2.2.2.2.2.2⟩)⟩, ⟨by (with_reducible repeat (first | apply Kd.N_alloc | apply Kd.N_drewN | apply Kd.N_drew)); exact Kd.N_mono HO263.out (fun _ hk => ⟨hk.2, hk.1.1.1.1.2⟩)⟩, ⟨by (with_reducible repeat (first | refine blk_drewN ?_ _ | refine blk_drew ?_ | refine blk_alloc ?_ _)); exact BK265.out⟩, ⟨by repeat (first | (with_reducible first | exact HB.out | apply below_alloc | apply pw_below_drewN | apply below_drew1 | refine below_set ?_ GE265.out) | exact HB.out)⟩⟩
                  · rw [if_neg c35] at H
                    exact absurd H (by simp)
                · rw [if_neg c34] at H
                  have c34b0 : ((t279.length : Int) == 2) = false := beq_eq_false_iff_ne.mpr c34
                  have c34b1 : ((t279.length : Int) != 2) = true := bne_iff_ne.mpr c34
                  have H' := Aside0.mk H
                  clear H
                  obtain ⟨Ao37, co37, eo37⟩ := Kd.N_slice HO281.out
                  subst eo37
                  go_wp2
                  go_meet
                  case rel => exact ⟨_, (true), (by first | rfl | (simp; done) | (simp [*]; done)), H', ⟨by first | omega | exact Nat.le_refl _⟩, ⟨by (with_reducible repeat (first | apply Kd.N_alloc | apply Kd.N_drewN | apply Kd.N_drew)); exact Kd.N_mono HO281.out (fun _ hk => ⟨hk.2.2.1, hk.2.2.2.2.2.2⟩)⟩, ⟨by (with_reducible repeat (first | apply Kd.N_alloc | apply Kd.N_drewN | apply Kd.N_drew)); exact Kd.N_mono HO263.out (fun _ hk => ⟨hk.2, hk.1.1.1.1.2⟩)⟩, ⟨by (with_reducible repeat (first | refine blk_drewN ?_ _ | refine blk_drew ?_ | refine blk_alloc ?_ _)); exact BK265.out⟩, ⟨by repeat (first | (with_reducible first | exact HB.out | apply below_alloc | apply pw_below_drewN | apply below_drew1 | refine below_set ?_ GE265.out) | exact HB.out)⟩⟩
              · rw [if_neg c33] at H
                have c33b0 : (t282 == 0) = false := beq_eq_false_iff_ne.mpr c33
                have c33b1 : (t282 != 0) = true := bne_iff_ne.mpr c33
                have H' := Aside0.mk H
                clear H
                go_wp2
                go_meet
                case rel => exact ⟨_, (true), (by first | rfl | (simp; done) | (simp [*]; done)), H', ⟨by first | omega | exact Nat.le_refl _⟩, ⟨by (with_reducible repeat (first | apply Kd.N_alloc | apply Kd.N_drewN | apply Kd.N_drew)); exact Kd.N_mono HO281.out (fun _ hk => ⟨hk.2.2.1, hk.2.2.2.2.2.2⟩)⟩, ⟨by (with_reducible repeat (first | apply Kd.N_alloc | apply Kd.N_drewN | apply Kd.N_drew)); exact Kd.N_mono HO263.out (fun _ hk => ⟨hk.2, hk.1.1.1.1.2⟩)⟩, ⟨by (with_reducible repeat (first | refine blk_drewN ?_ _ | refine blk_drew ?_ | refine blk_alloc ?_ _)); exact BK265.out⟩, ⟨by repeat (first | (with_reducible first | exact HB.out | apply below_alloc | apply pw_below_drewN | apply below_drew1 | refine below_set ?_ GE265.out) | exact HB.out)⟩⟩
            · rw [if_neg c32] at H
              have c32b0 : (t273 == 3) = false := beq_eq_false_iff_ne.mpr c32
              have c32b1 : (t273 != 3) = true := bne_iff_ne.mpr c32
              have H' := Aside0.mk H
              clear H
              go_wp2
              go_meet
              case rel => exact ⟨_, (true), (by first | rfl | (simp; done) | (simp [*]; done)), H', ⟨by first | omega | exact Nat.le_refl _⟩, ⟨by (with_reducible repeat (first | apply Kd.N_alloc | apply Kd.N_drewN | apply Kd.N_drew)); exact Kd.N_mono HO281.out (fun _ hk => ⟨hk.2.2.1, hk.2.2.2.2.2.2⟩)⟩, ⟨by (with_reducible repeat (first | apply Kd.N_alloc | apply Kd.N_drewN | apply Kd.N_drew)); exact Kd.N_mono HO263.out (fun _ hk => ⟨hk.2, hk.1.1.1.1.2⟩)⟩, ⟨by (with_reducible repeat (first | refine blk_drewN ?_ _ | refine blk_drew ?_ | refine blk_alloc ?_ _)); exact BK265.out⟩, ⟨by repeat (first | (with_reducible first | exact HB.out | apply below_alloc | apply pw_below_drewN | apply below_drew1 | refine below_set ?_ GE265.out) | exact HB.out)⟩⟩
          · rw [if_neg c31] at H
            have c31b0 : (t274 == 0) = false := beq_eq_false_iff_ne.mpr c31
            have c31b1 : (t274 != 0) = true := bne_iff_ne.mpr c31
            have H' := Aside0.mk H
            clear H
            go_wp2
            go_meet
            case rel => exact ⟨_, (true), (by first | rfl | (simp; done) | (simp [*]; done)), H', ⟨by first | omega | exact Nat.le_refl _⟩, ⟨by (with_reducible repeat (first | apply Kd.N_alloc | apply Kd.N_drewN | apply Kd.N_drew)); exact Kd.N_mono HO281.out (fun _ hk => ⟨hk.2.2.1, hk.2.2.2.2.2.2⟩)⟩, ⟨by (with_reducible repeat (first | apply Kd.N_alloc | apply Kd.N_drewN | apply Kd.N_drew)); exact Kd.N_mono HO263.out (fun _ hk => ⟨hk.2, hk.1.1.1.1.2⟩)⟩, ⟨by (with_reducible repeat (first | refine blk_drewN ?_ _ | refine blk_drew ?_ | refine blk_alloc ?_ _)); exact BK265.out⟩, ⟨by repeat (first | (with_reducible first | exact HB.out | apply below_alloc | apply pw_below_drewN | apply below_drew1 | refine below_set ?_ GE265.out) | exact HB.out)⟩⟩
        · rw [if_neg c30] at H
          have c30b0 : (t264 == 0) = false := beq_eq_false_iff_ne.mpr c30
          have c30b1 : (t264 != 0) = true := bne_iff_ne.mpr c30
          have H' := Aside0.mk H
          clear H
          go_wp2
          go_meet
          case rel => exact ⟨_, (true), (by first | rfl | (simp; done) | (simp [*]; done)), H', ⟨by first | omega | exact Nat.le_refl _⟩, ⟨by (with_reducible repeat (first | apply Kd.N_alloc | apply Kd.N_drewN | apply Kd.N_drew)); exact Kd.N_mono HO281.out (fun _ hk => ⟨hk.2.2.1, hk.2.2.2.2.2.2⟩)⟩, ⟨by (with_reducible repeat (first | apply Kd.N_alloc | apply Kd.N_drewN | apply Kd.N_drew)); exact Kd.N_mono HO263.out (fun _ hk => ⟨hk.2, hk.1.1.1.1.2⟩)⟩, ⟨by (with_reducible repeat (first | refine blk_drewN ?_ _ | refine blk_drew ?_ | refine blk_alloc ?_ _)); exact BK265.out⟩, ⟨by repeat (first | (with_reducible first | exact HB.out | apply below_alloc | apply pw_below_drewN | apply below_drew1 | refine below_set ?_ GE265.out) | exact HB.out)⟩⟩
      · rw [if_neg c29] at H
        have c29b0 : (t254 == 8) = false := beq_eq_false_iff_ne.mpr c29
        have c29b1 : (t254 != 8) = true := bne_iff_ne.mpr c29
        have H' := Aside0.mk H
        clear H
        go_wp2
        go_meet
        case rel => exact ⟨_, (true), (by first | rfl | (simp; done) | (simp [*]; done)), H', ⟨by first | omega | exact Nat.le_refl _⟩, ⟨by (with_reducible repeat (first | apply Kd.N_alloc | apply Kd.N_drewN | apply Kd.N_drew)); exact Kd.N_mono HO281.out (fun _ hk => ⟨hk.2.2.1, hk.2.2.2.2.2.2⟩)⟩, ⟨by (with_reducible repeat (first | apply Kd.N_alloc | apply Kd.N_drewN | apply Kd.N_drew)); exact Kd.N_mono HO263.out (fun _ hk => ⟨hk.2, hk.1.1.1.1.2⟩)⟩, ⟨by (with_reducible repeat (first | refine blk_drewN ?_ _ | refine blk_drew ?_ | refine blk_alloc ?_ _)); exact BK265.out⟩, ⟨by repeat (first | (with_reducible first | exact HB.out | apply below_alloc | apply pw_below_drewN | apply below_drew1 | refine below_set ?_ GE265.out) | exact HB.out)⟩⟩
    · rw [if_neg c28] at H
      have c28b0 : (t255 == 0) = false := beq_eq_false_iff_ne.mpr c28
      have c28b1 : (t255 != 0) = true := bne_iff_ne.mpr c28
      (first | rw [c28b0] | (simp only [i64_w, i32_w]; rw [c28b0]) | skip)
      have H' := Aside0.mk H
      clear H
      go_wp2
      go_meet
      case rel => exact ⟨_, (true), (by first | rfl | (simp; done) | (simp [*]; done)), H', ⟨by first | omega | exact Nat.le_refl _⟩, ⟨by (with_reducible repeat (first | apply Kd.N_alloc | apply Kd.N_drewN | apply Kd.N_drew)); exact Kd.N_mono HO281.out (fun _ hk => ⟨hk.2.2.1, hk.2.2.2.2.2.2⟩)⟩, ⟨by (with_reducible repeat (first | apply Kd.N_alloc | apply Kd.N_drewN | apply Kd.N_drew)); exact Kd.N_mono HO263.out (fun _ hk => ⟨hk.2, hk.1.1.1.1.2⟩)⟩, ⟨by (with_reducible repeat (first | refine blk_drewN ?_ _ | refine blk_drew ?_ | refine blk_alloc ?_ _)); exact BK265.out⟩, ⟨by repeat (first | (with_reducible first | exact HB.out | apply below_alloc | apply pw_below_drewN | apply below_drew1 | refine below_set ?_ GE265.out) | exact HB.out)⟩⟩
  case rest =>
    clear HC9
    try clear c1
    try clear c2
    try clear p2
    try clear q2
    try clear hx2
    try clear qi2
    try clear c3
    try clear c5
    try clear c9
    try clear c12
    try clear c14
    try clear c15
    try clear c25
    try clear c28
    try clear c28b0
    try clear c28b1
    try clear p28
    try clear q28
    try clear hx28
    try clear qi28
    try clear c29
    try clear c29b0
    try clear c29b1
    try clear c30
    try clear c30b0
    try clear c30b1
    try clear c31
    try clear c31b0
    try clear c31b1
    try clear c32
    try clear c32b0
    try clear c32b1
    try clear c33
    try clear c33b0
    try clear c33b1
    try clear c34
    try clear c34b0
    try clear c34b1
    try clear c35
    try clear c35b0
    try clear c35b1
    try clear hcz17_0
    try clear hcz17_1
    try clear hfz17_0
    try clear hfz17_1
    try clear hx283_0
    try clear hx283_1
    try clear hx283_2
    try clear p283
    try clear q283
    obtain ⟨kq, x63_8, rfl, HA, HJ8, HO_7, HO_266001, BK265, HB⟩ := hcut
    cases kq with
    | zero => exact absurd HA.out (by simp [galoislaw23_awake.j0])
    | succ kj8 =>
      have H := HA.out
      clear HA
      simp only [galoislaw23_awake.j0] at H
      by_cases c38 : x63_8 = true
      · subst c38
        have H1 : (some false) = some r := by rw [if_pos rfl] at H; exact H
        clear H
        have H := H1
        clear H1
        obtain rfl := Option.some.inj H
        go_wp2
        go_ret
        exact ⟨by first | rfl | (simp [errW_none, errW_some] <;> rfl) | (simp [*, errW_none, errW_some] <;> rfl), by repeat (first | (with_reducible first | exact HB.out | apply below_alloc | apply pw_below_drewN | apply below_drew1 | refine below_set ?_ GE265.out) | exact HB.out)⟩
      · replace c38 := Bool.eq_false_iff.mpr c38
        subst c38
        have H1 : ((galoisref23_Equal.f kj8 t260 t261 4 (([(([0, 3, 2, 1] : List Int)), (([1, 0, 3, 2] : List Int))] : List (List Int)))).bind fun t293 => (if t293 = true then (if 1 < (t279.length : Int) then ((galoisref22_Same.f kj8 ((rd_T66 t279 1).f1) (([1, 3] : List Int))).bind fun t298 => (some t298)) else (none)) else (some false))) = some r := by rw [if_neg (show ¬ (false = true) by decide)] at H; exact H
        clear H
        have H := H1
        clear H1
        obtain ⟨y284, hy284⟩ : ∃ y_ : List Int, y_ = (([0, 3, 2, 1] : List Int)) := ⟨_, rfl⟩
        replace H : ((galoisref23_Equal.f kj8 t260 t261 4 (([y284, (([1, 0, 3, 2] : List Int))] : List (List Int)))).bind fun t293 => (if t293 = true then (if 1 < (t279.length : Int) then ((galoisref22_Same.f kj8 ((rd_T66 t279 1).f1) (([1, 3] : List Int))).bind fun t298 => (some t298)) else (none)) else (some false))) = some r := by first | (rw [hy284]; with_reducible exact H) | (have H2_ := (Option.bind_some _ _).symm.trans H; rw [hy284]; with_reducible exact H2_) | (have H2_ := (Option.bind_some _ _).symm.trans H; with_reducible exact H2_) | with_reducible exact H | (rw [hy284]; exact H) | exact H
        have Ny284 := Aside0.mk hy284
        clear hy284
        obtain ⟨y287, hy287⟩ : ∃ y_ : List Int, y_ = (([1, 0, 3, 2] : List Int)) := ⟨_, rfl⟩
        replace H : ((galoisref23_Equal.f kj8 t260 t261 4 (([y284, y287] : List (List Int)))).bind fun t293 => (if t293 = true then (if 1 < (t279.length : Int) then ((galoisref22_Same.f kj8 ((rd_T66 t279 1).f1) (([1, 3] : List Int))).bind fun t298 => (some t298)) else (none)) else (some false))) = some r := by first | (rw [hy287]; with_reducible exact H) | (have H2_ := (Option.bind_some _ _).symm.trans H; rw [hy287]; with_reducible exact H2_) | (have H2_ := (Option.bind_some _ _).symm.trans H; with_reducible exact H2_) | with_reducible exact H | (rw [hy287]; exact H) | exact H
        have Ny287 := Aside0.mk hy287
        clear hy287
        obtain ⟨y290, hy290⟩ : ∃ y_ : List (List Int), y_ = (([y284, y287] : List (List Int))) := ⟨_, rfl⟩
        replace H : ((galoisref23_Equal.f kj8 t260 t261 4 y290).bind fun t293 => (if t293 = true then (if 1 < (t279.length : Int) then ((galoisref22_Same.f kj8 ((rd_T66 t279 1).f1) (([1, 3] : List Int))).bind fun t298 => (some t298)) else (none)) else (some false))) = some r := by first | (rw [hy290]; with_reducible exact H) | (have H2_ := (Option.bind_some _ _).symm.trans H; rw [hy290]; with_reducible exact H2_) | (have H2_ := (Option.bind_some _ _).symm.trans H; with_reducible exact H2_) | with_reducible exact H | (rw [hy290]; exact H) | exact H
        have Ny290 := Aside0.mk hy290
        clear hy290
        replace H := Option.bind_eq_some_iff.mp H
        obtain ⟨t293, A390, H⟩ := H
        replace H : (if t293 = true then (if 1 < (t279.length : Int) then ((galoisref22_Same.f kj8 ((rd_T66 t279 1).f1) (([1, 3] : List Int))).bind fun t298 => (some t298)) else (none)) else (some false)) = some r := H
        have A39 := Aside0.mk A390
        clear A390
        by_cases c40 : t293 = true
        · subst c40
          have H1 : (if 1 < (t279.length : Int) then ((galoisref22_Same.f kj8 ((rd_T66 t279 1).f1) (([1, 3] : List Int))).bind fun t298 => (some t298)) else (none)) = some r := by rw [if_pos rfl] at H; exact H
          clear H
          have H := H1
          clear H1
          by_cases c41 : 1 < (t279.length : Int)
          · rw [if_pos c41] at H
            have c41b0 : decide (1 < (t279.length : Int)) = true := decide_eq_true c41
            have c41b1 : decide (1 < t279.length) = true := decide_eq_true (by omega)
            clear c41
            obtain ⟨y295, hy295⟩ : ∃ y_ : List Int, y_ = (([1, 3] : List Int)) := ⟨_, rfl⟩
            replace H : ((galoisref22_Same.f kj8 ((rd_T66 t279 1).f1) y295).bind fun t298 => (some t298)) = some r := by first | (rw [hy295]; with_reducible exact H) | (have H2_ := (Option.bind_some _ _).symm.trans H; rw [hy295]; with_reducible exact H2_) | (have H2_ := (Option.bind_some _ _).symm.trans H; with_reducible exact H2_) | with_reducible exact H | (rw [hy295]; exact H) | exact H
            have Ny295 := Aside0.mk hy295
            clear hy295
            replace H := Option.bind_eq_some_iff.mp H
            obtain ⟨t298, A420, H⟩ := H
            replace H : (some t298) = some r := H
            have A42 := Aside0.mk A420
            clear A420
            obtain rfl := Option.some.inj H
            have hcz43_0 : wc.cell? ⟨gb265, 0, none⟩ = some (.int .i64 t260) := (blk_cell BK265.out 0).trans rfl
            have hcz43_1 : wc.cell? ⟨gb265, 1, none⟩ = some (.slice Ao18 t261.length co18) := (blk_cell BK265.out 1).trans rfl
            have hfz43_0 := blk_frozen BK265.out 0
            have hfz43_1 := blk_frozen BK265.out 1
            go_wp2_with (first | ((with_reducible refine gate_dst (N := 65) rfl ?_); (try (refine gate_guard (by rfl) ?_; dsimp only)); refine Kd.R_lit (Kd.int .i64) _ 3 ?hg (N := 65) ?hd (xs := ([0, 3, 2, 1] : List Int)) (inner := [.int .i64 0, .int .i64 3, .int .i64 2, .int .i64 1]) (ok := fun _ => True) (okp := fun _ => True) ?hr ?hp (fun _ hk => hk) trivial (Below.refl _ _) (Nat.le_refl _) (by simp) ?_; (case hd => rfl); (case hg => rfl); (case hr => first | (go_simp; done) | (go_simp; rfl)); (case hp => exact (Reps.one (show Kd.M (Kd.int .i64) _ _ _ 0 [.int .i64 0] from rfl) (Reps.one (show Kd.M (Kd.int .i64) _ _ _ 3 [.int .i64 3] from rfl) (Reps.one (show Kd.M (Kd.int .i64) _ _ _ 2 [.int .i64 2] from rfl) (Reps.one (show Kd.M (Kd.int .i64) _ _ _ 1 [.int .i64 1] from rfl) (Reps.none _ _)))))); intro v285 w44 ho45 hb hg_ hnew_; clear hg_ hnew_; (first | rw [← Ny284.out] at ho45 | (simp only [Int.reduceToNat] at ho45; rw [← Ny284.out] at ho45)); have n0_ := Aside0.mk (Kd.N_elder' (by (with_reducible repeat (first | apply Kd.N_alloc | apply Kd.N_drewN | apply Kd.N_drew)); exact HO_7.out) (Kd.R_base ho45) hb); have n1_ := Aside0.mk (Kd.N_elder' (by (with_reducible repeat (first | apply Kd.N_alloc | apply Kd.N_drewN | apply Kd.N_drew)); exact HO_266001.out) (Kd.R_base ho45) hb); have n2_ := Aside0.mk (Kd.R_lower ho45 (below_size (by repeat (first | (with_reducible first | exact HB.out | apply below_alloc | apply pw_below_drewN | apply below_drew1 | refine below_set ?_ GE265.out) | exact HB.out)))); have n3_ := Aside0.mk (blk_below (g := gb265) (o := .cells #[.int .i64 t260, .slice Ao18 t261.length co18] 24 (0, 0)) (by (with_reducible repeat (first | refine blk_drewN ?_ _ | refine blk_drew ?_ | refine blk_alloc ?_ _)); exact BK265.out) hb); have n4_ := Aside0.mk (below_step (by repeat (first | (with_reducible first | exact HB.out | apply below_alloc | apply pw_below_drewN | apply below_drew1 | refine below_set ?_ GE265.out) | exact HB.out)) hb); clear HO_7; clear HO_266001; clear BK265; clear HB; have HO_7 := n0_; have HO_266001 := n1_; have HO286 := n2_; have BK265 := n3_; have HB := n4_; clear n0_ n1_ n2_ n3_ n4_; clear hb ho45) | ((with_reducible refine gate_dst (N := 66) rfl ?_); (try (refine gate_guard (by rfl) ?_; dsimp only)); refine Kd.R_lit (Kd.int .i64) _ 3 ?hg (N := 66) ?hd (xs := ([1, 0, 3, 2] : List Int)) (inner := [.int .i64 1, .int .i64 0, .int .i64 3, .int .i64 2]) (ok := fun _ => True) (okp := fun _ => True) ?hr ?hp (fun _ hk => hk) trivial (Below.refl _ _) (Nat.le_refl _) (by simp) ?_; (case hd => rfl); (case hg => rfl); (case hr => first | (go_simp; done) | (go_simp; rfl)); (case hp => exact (Reps.one (show Kd.M (Kd.int .i64) _ _ _ 1 [.int .i64 1] from rfl) (Reps.one (show Kd.M (Kd.int .i64) _ _ _ 0 [.int .i64 0] from rfl) (Reps.one (show Kd.M (Kd.int .i64) _ _ _ 3 [.int .i64 3] from rfl) (Reps.one (show Kd.M (Kd.int .i64) _ _ _ 2 [.int .i64 2] from rfl) (Reps.none _ _)))))); intro v288 w46 ho47 hb hg_ hnew_; clear hg_ hnew_; (first | rw [← Ny287.out] at ho47 | (simp only [Int.reduceToNat] at ho47; rw [← Ny287.out] at ho47)); have n0_ := Aside0.mk (Kd.N_elder' (by (with_reducible repeat (first | apply Kd.N_alloc | apply Kd.N_drewN | apply Kd.N_drew)); exact HO_7.out) (Kd.R_base ho47) hb); have n1_ := Aside0.mk (Kd.N_elder' (by (with_reducible repeat (first | apply Kd.N_alloc | apply Kd.N_drewN | apply Kd.N_drew)); exact HO_266001.out) (Kd.R_base ho47) hb); have n2_ := Aside0.mk (Kd.R_elder' (by (with_reducible repeat (first | apply Kd.R_alloc | apply Kd.R_drewN | apply Kd.R_drew)); exact HO286.out) (Kd.R_base ho47) hb); have n3_ := Aside0.mk (Kd.R_lower (Kd.R_new' ho47 (Kd.R_lt (by (with_reducible repeat (first | apply Kd.R_alloc | apply Kd.R_drewN | apply Kd.R_drew)); exact HO286.out))) (below_size (by repeat (first | (with_reducible first | exact HB.out | apply below_alloc | apply pw_below_drewN | apply below_drew1 | refine below_set ?_ GE265.out) | exact HB.out)))); have n4_ := Aside0.mk (blk_below (g := gb265) (o := .cells #[.int .i64 t260, .slice Ao18 t261.length co18] 24 (0, 0)) (by (with_reducible repeat (first | refine blk_drewN ?_ _ | refine blk_drew ?_ | refine blk_alloc ?_ _)); exact BK265.out) hb); have n5_ := Aside0.mk (below_step (by repeat (first | (with_reducible first | exact HB.out | apply below_alloc | apply pw_below_drewN | apply below_drew1 | refine below_set ?_ GE265.out) | exact HB.out)) hb); clear HO_7; clear HO_266001; clear HO286; clear BK265; clear HB; have HO_7 := n0_; have HO_266001 := n1_; have HO286 := n2_; have HO289 := n3_; have BK265 := n4_; have HB := n5_; clear n0_ n1_ n2_ n3_ n4_ n5_; clear hb ho47; obtain ⟨Ao48, co48, eo48⟩ := Kd.R_slice HO286.out; subst eo48; obtain ⟨Ao49, co49, eo49⟩ := Kd.R_slice HO289.out; subst eo49) | ((with_reducible refine gate_dst (N := 67) rfl ?_); (try (refine gate_guard (by rfl) ?_; dsimp only)); refine Kd.N_lit (Kd.slice 3 (Kd.int .i64)) _ 47 ?hg (N' := 67) ?hd (xs := ([y284, y287] : List (List Int))) (inner := [.slice Ao48 y284.length co48, .slice Ao49 y287.length co49]) (ok := (fun k_ => some k_ ≠ (v280 : Value).ownBlock ∧ some k_ ≠ (.slice Ao18 t261.length co18 : Value).ownBlock ∧ k_ ≠ gb265)) (okp := (fun k_ => some k_ ≠ (v280 : Value).ownBlock ∧ some k_ ≠ (.slice Ao18 t261.length co18 : Value).ownBlock ∧ k_ ≠ gb265)) ?hr ?hp (fun _ hk => hk) ((show ∀ k_, w46.heap.size ≤ k_ → (fun k_ => some k_ ≠ (v280 : Value).ownBlock ∧ some k_ ≠ (.slice Ao18 t261.length co18 : Value).ownBlock ∧ k_ ≠ gb265) k_ from fun k_ hk => ⟨Kd.fresh' (Kd.N_lt (by (with_reducible repeat (first | apply Kd.N_alloc | apply Kd.N_drewN | apply Kd.N_drew)); exact HO_7.out)) k_ hk, Kd.fresh' (Kd.N_lt (by (with_reducible repeat (first | apply Kd.N_alloc | apply Kd.N_drewN | apply Kd.N_drew)); exact HO_266001.out)) k_ hk, Kd.freshB (g := gb265) (o := .cells #[.int .i64 t260, .slice Ao18 t261.length co18] 24 (0, 0)) (by (with_reducible repeat (first | refine blk_drewN ?_ _ | refine blk_drew ?_ | refine blk_alloc ?_ _)); exact BK265.out) k_ hk⟩) _ (Nat.le_refl _)) (Below.refl _ _) (Nat.le_refl _) (by simp) ?_; (case hd => rfl); (case hg => rfl); (case hr => first | (go_simp; done) | (go_simp; rfl)); (case hp => exact (Reps.one (show Kd.FK (Kd.slice 3 (Kd.int .i64)) _ _ y284 [.slice Ao48 y284.length co48] from (Kd.FK_slice_mk (Kd.R_reads' (Kd.R_mono (ok' := (fun k_ => some k_ ≠ (v280 : Value).ownBlock ∧ some k_ ≠ (.slice Ao18 t261.length co18 : Value).ownBlock ∧ k_ ≠ gb265)) (Kd.R_types (Kd.R_apart' (Kd.R_apart' (HO286.out) (Kd.N_typed HO_7.out) (by decide)) (Kd.N_typed HO_266001.out) (by decide)) BK265.out (by decide)) (fun k_ hk => ⟨hk.1.1.2, ⟨hk.1.2, hk.2⟩⟩))).2.1 (Kd.R_F (Kd.R_mono (ok' := (fun k_ => some k_ ≠ (v280 : Value).ownBlock ∧ some k_ ≠ (.slice Ao18 t261.length co18 : Value).ownBlock ∧ k_ ≠ gb265)) (Kd.R_types (Kd.R_apart' (Kd.R_apart' (HO286.out) (Kd.N_typed HO_7.out) (by decide)) (Kd.N_typed HO_266001.out) (by decide)) BK265.out (by decide)) (fun k_ hk => ⟨hk.1.1.2, ⟨hk.1.2, hk.2⟩⟩))))) (Reps.one (show Kd.FK (Kd.slice 3 (Kd.int .i64)) _ _ y287 [.slice Ao49 y287.length co49] from (Kd.FK_slice_mk (Kd.R_reads' (Kd.R_mono (ok' := (fun k_ => some k_ ≠ (v280 : Value).ownBlock ∧ some k_ ≠ (.slice Ao18 t261.length co18 : Value).ownBlock ∧ k_ ≠ gb265)) (Kd.R_types (Kd.R_apart' (Kd.R_apart' (HO289.out) (Kd.N_typed HO_7.out) (by decide)) (Kd.N_typed HO_266001.out) (by decide)) BK265.out (by decide)) (fun k_ hk => ⟨hk.1.1.2, ⟨hk.1.2, hk.2⟩⟩))).2.1 (Kd.R_F (Kd.R_mono (ok' := (fun k_ => some k_ ≠ (v280 : Value).ownBlock ∧ some k_ ≠ (.slice Ao18 t261.length co18 : Value).ownBlock ∧ k_ ≠ gb265)) (Kd.R_types (Kd.R_apart' (Kd.R_apart' (HO289.out) (Kd.N_typed HO_7.out) (by decide)) (Kd.N_typed HO_266001.out) (by decide)) BK265.out (by decide)) (fun k_ hk => ⟨hk.1.1.2, ⟨hk.1.2, hk.2⟩⟩))))) (Reps.none _ _)))); intro v291 w50 ho51 hb hg_ hnew_; clear hg_ hnew_; (first | rw [← Ny290.out] at ho51 | (simp only [Int.reduceToNat] at ho51; rw [← Ny290.out] at ho51)); have n0_ := Aside0.mk (Kd.N_elder' (by (with_reducible repeat (first | apply Kd.N_alloc | apply Kd.N_drewN | apply Kd.N_drew)); exact HO_7.out) (by first | exact Kd.N_base ho51 | exact Kd.S_base ho51 | exact Kd.R_base ho51) hb); have n1_ := Aside0.mk (Kd.N_elder' (by (with_reducible repeat (first | apply Kd.N_alloc | apply Kd.N_drewN | apply Kd.N_drew)); exact HO_266001.out) (by first | exact Kd.N_base ho51 | exact Kd.S_base ho51 | exact Kd.R_base ho51) hb); have n2_ := Aside0.mk (Kd.N_lower ho51 (below_size (by repeat (first | (with_reducible first | exact HB.out | apply below_alloc | apply pw_below_drewN | apply below_drew1 | refine below_set ?_ GE265.out) | exact HB.out)))); have n3_ := Aside0.mk (blk_below (g := gb265) (o := .cells #[.int .i64 t260, .slice Ao18 t261.length co18] 24 (0, 0)) (by (with_reducible repeat (first | refine blk_drewN ?_ _ | refine blk_drew ?_ | refine blk_alloc ?_ _)); exact BK265.out) hb); have n4_ := Aside0.mk (below_step (by repeat (first | (with_reducible first | exact HB.out | apply below_alloc | apply pw_below_drewN | apply below_drew1 | refine below_set ?_ GE265.out) | exact HB.out)) hb); clear HO_7; clear HO_266001; clear BK265; clear HB; clear HO286; clear HO289; have HO_7 := n0_; have HO_266001 := n1_; have HO292 := n2_; have BK265 := n3_; have HB := n4_; clear n0_ n1_ n2_ n3_ n4_; clear hb ho51; obtain ⟨Ao52, co52, eo52⟩ := Kd.N_slice HO292.out; subst eo52) | ((with_reducible refine gate_callee (f := 20) rfl ?_); refine goesL_ (some 69) rfl rfl Try.func20 (by kernel_rfl) rfl #[.agg #[.int .i64 t260, .slice Ao18 t261.length co18], .agg #[.int .i64 4, .slice Ao52 y290.length co52]] rfl (by (try simp only [List.map_toArray, List.map_cons, List.map_nil]); first | done | rfl | (simp only [List.length_drop, List.length_take]; rfl)) ?_; (with_reducible refine (galoisref23_Equal.calls kj8 t260 _ _ t261 4 _ _ y290 true _ ?side1 ?side2 ?side3 ?side4 A39.out).mono ?_); (case side1 => repeat (first | exact (Kd.N_reads' HO_266001.out).2.2 | (with_reducible refine Kd.C_alloc ?_ _) | (with_reducible refine Kd.C_drewN ?_ _) | (with_reducible refine Kd.C_drew ?_))); (case side2 => exact (Kd.N_reads' HO_266001.out).2.1); (case side3 => repeat (first | exact (Kd.N_reads' HO292.out).2.2 | (with_reducible refine Kd.C_alloc ?_ _) | (with_reducible refine Kd.C_drewN ?_ _) | (with_reducible refine Kd.C_drew ?_))); (case side4 => exact (Kd.N_reads' HO292.out).2.1); rintro e w53 ⟨rfl, hb⟩; refine ⟨_, rfl, ?_⟩; have n0_ := Aside0.mk (Kd.N_below (by (with_reducible repeat (first | apply Kd.N_alloc | apply Kd.N_drewN | apply Kd.N_drew)); exact HO_7.out) hb); have n1_ := Aside0.mk (Kd.N_below (by (with_reducible repeat (first | apply Kd.N_alloc | apply Kd.N_drewN | apply Kd.N_drew)); exact HO_266001.out) hb); have n2_ := Aside0.mk (Kd.N_below (by (with_reducible repeat (first | apply Kd.N_alloc | apply Kd.N_drewN | apply Kd.N_drew)); exact HO292.out) hb); have n3_ := Aside0.mk (blk_below (g := gb265) (o := .cells #[.int .i64 t260, .slice Ao18 t261.length co18] 24 (0, 0)) (by (with_reducible repeat (first | refine blk_drewN ?_ _ | refine blk_drew ?_ | refine blk_alloc ?_ _)); exact BK265.out) hb); have n4_ := Aside0.mk (below_step (by repeat (first | (with_reducible first | exact HB.out | apply below_alloc | apply pw_below_drewN | apply below_drew1 | refine below_set ?_ GE265.out) | exact HB.out)) hb); clear HO_7; clear HO_266001; clear HO292; clear BK265; clear HB; have HO_7 := n0_; have HO_266001 := n1_; have HO292 := n2_; have BK265 := n3_; have HB := n4_; clear n0_ n1_ n2_ n3_ n4_; (try clear hb); (try clear hb2); (try clear hk); (try clear hi); obtain ⟨Ao54, co54, eo54⟩ := Kd.N_slice HO_7.out; subst eo54; have p294 : 0 ≤ (1 : Int) := (by omega); have q294 : 1 < (t279.length : Int) := of_decide_eq_true (by first | (with_reducible assumption) | assumption); obtain ⟨ad294, A294_1, c294_1, A294_2, c294_2, e294, hx294_0, hx294_1, hx294_2, hl294_1, hi294_1, hl294_2, hi294_2⟩ := at_T66 (Kd.N_reads' HO_7.out).2.2 1 p294 q294; cases e294; obtain ⟨ce294, hce294, hMe294, hcc294⟩ := Kd.N_get HO_7.out z66 1 p294 (by first | exact q294 | exact of_decide_eq_true (by first | (with_reducible assumption) | assumption) | (have e_ := (Kd.N_reads' HO_7.out).1; omega)); obtain ⟨ua294_1, uc294_1, ua294_2, uc294_2, rfl, ul294_1, ge294_1, ul294_2, ge294_2⟩ := k66_openF hMe294; have hv294_1 := hcc294 1 _ rfl; rw [add_field _ _ 1 (by omega)] at hv294_1; replace hv294_1 := Option.some.inj (hv294_1.symm.trans hx294_1); injection hv294_1 with hva_ hvn_ hvc_; rw [hva_] at ge294_1; rw [hvc_] at ul294_1; have HL294_1 := Aside0.mk (show Kd.V (Kd.int .i64) 3 _ w.heap.size _ _ ((rd_T66 t279 1).f1) from Kd.V_mk ul294_1 ge294_1); clear hva_ hvn_ hvc_ ge294_1 ul294_1; have hv294_2 := hcc294 2 _ rfl; rw [add_field _ _ 2 (by omega)] at hv294_2; replace hv294_2 := Option.some.inj (hv294_2.symm.trans hx294_2); injection hv294_2 with hva_ hvn_ hvc_; rw [hva_] at ge294_2; rw [hvc_] at ul294_2; have HL294_2 := Aside0.mk (show Kd.V (Kd.slice 3 (Kd.int .i64)) 47 _ w.heap.size _ _ ((rd_T66 t279 1).f2) from Kd.V_mk ul294_2 ge294_2); clear hva_ hvn_ hvc_ ge294_2 ul294_2; clear hcc294 hce294; (try simp only [show (1 : Int).toNat = 1 from rfl, Nat.reduceMul, Nat.reduceEqDiff, Go.Addr.add, ↓reduceIte] at hx294_0); (try simp only [show (1 : Int).toNat = 1 from rfl, Nat.reduceMul, Nat.reduceEqDiff, Go.Addr.add, ↓reduceIte] at hx294_1); (try simp only [show (1 : Int).toNat = 1 from rfl, Nat.reduceMul, Nat.reduceEqDiff, Go.Addr.add, ↓reduceIte] at hx294_2); have qi294 : (1 < t279.length) = True := eq_true (by omega); (try rw [show ((1 : Int)).toNat = 1 from rfl] at hx294_0); (try rw [show 1 * 3 = 3 from rfl] at hx294_0); (try rw [show ((1 : Int)).toNat = 1 from rfl] at hx294_1); (try rw [show 1 * 3 = 3 from rfl] at hx294_1); (try rw [show ((1 : Int)).toNat = 1 from rfl] at hx294_2); (try rw [show 1 * 3 = 3 from rfl] at hx294_2); have HR294_1 := Aside0.mk hi294_1; have HC294_1 := Aside0.mk hl294_1; clear hi294_1 hl294_1; have HR294_2 := Aside0.mk hi294_2; have HC294_2 := Aside0.mk hl294_2; clear hi294_2 hl294_2; replace p294 := eq_true p294; replace q294 := eq_true q294) | ((with_reducible refine gate_dst (N := 75) rfl ?_); (try (refine gate_guard (by rfl) ?_; dsimp only)); refine Kd.R_lit (Kd.int .i64) _ 3 ?hg (N := 75) ?hd (xs := ([1, 3] : List Int)) (inner := [.int .i64 1, .int .i64 3]) (ok := fun _ => True) (okp := fun _ => True) ?hr ?hp (fun _ hk => hk) trivial (Below.refl _ _) (Nat.le_refl _) (by simp) ?_; (case hd => rfl); (case hg => rfl); (case hr => first | (go_simp; done) | (go_simp; rfl)); (case hp => exact (Reps.one (show Kd.M (Kd.int .i64) _ _ _ 1 [.int .i64 1] from rfl) (Reps.one (show Kd.M (Kd.int .i64) _ _ _ 3 [.int .i64 3] from rfl) (Reps.none _ _)))); intro v296 w55 ho56 hb hg_ hnew_; clear hg_ hnew_; (first | rw [← Ny295.out] at ho56 | (simp only [Int.reduceToNat] at ho56; rw [← Ny295.out] at ho56)); have n0_ := Aside0.mk (Kd.N_elder' (by (with_reducible repeat (first | apply Kd.N_alloc | apply Kd.N_drewN | apply Kd.N_drew)); exact HO_7.out) (Kd.R_base ho56) hb); have n1_ := Aside0.mk (Kd.N_elder' (by (with_reducible repeat (first | apply Kd.N_alloc | apply Kd.N_drewN | apply Kd.N_drew)); exact HO_266001.out) (Kd.R_base ho56) hb); have n2_ := Aside0.mk (Kd.N_elder' (by (with_reducible repeat (first | apply Kd.N_alloc | apply Kd.N_drewN | apply Kd.N_drew)); exact HO292.out) (Kd.R_base ho56) hb); have n3_ := Aside0.mk (Kd.V_elder' (by (with_reducible repeat (first | apply Kd.V_alloc | apply Kd.V_drewN | apply Kd.V_drew)); exact HL294_1.out) (Kd.R_base ho56) hb); have n4_ := Aside0.mk (Kd.V_elder' (by (with_reducible repeat (first | apply Kd.V_alloc | apply Kd.V_drewN | apply Kd.V_drew)); exact HL294_2.out) (Kd.R_base ho56) hb); have n5_ := Aside0.mk (Kd.R_lower ho56 (below_size (by repeat (first | (with_reducible first | exact HB.out | apply below_alloc | apply pw_below_drewN | apply below_drew1 | refine below_set ?_ GE265.out) | exact HB.out)))); have n6_ := Aside0.mk (blk_below (g := gb265) (o := .cells #[.int .i64 t260, .slice Ao18 t261.length co18] 24 (0, 0)) (by (with_reducible repeat (first | refine blk_drewN ?_ _ | refine blk_drew ?_ | refine blk_alloc ?_ _)); exact BK265.out) hb); have n7_ := Aside0.mk (Kd.C_below (by repeat (first | (with_reducible exact HR294_1.out) | (with_reducible refine Kd.C_alloc ?_ _) | (with_reducible refine Kd.C_drewN ?_ _) | (with_reducible refine Kd.C_drew ?_) | exact HR294_1.out)) hb); have n8_ := Aside0.mk (Kd.C_below (by repeat (first | (with_reducible exact HR294_2.out) | (with_reducible refine Kd.C_alloc ?_ _) | (with_reducible refine Kd.C_drewN ?_ _) | (with_reducible refine Kd.C_drew ?_) | exact HR294_2.out)) hb); have n9_ := Aside0.mk (below_step (by repeat (first | (with_reducible first | exact HB.out | apply below_alloc | apply pw_below_drewN | apply below_drew1 | refine below_set ?_ GE265.out) | exact HB.out)) hb); clear HO_7; clear HO_266001; clear HO292; clear HL294_1; clear HL294_2; clear BK265; clear HR294_1; clear HR294_2; clear HB; have HO_7 := n0_; have HO_266001 := n1_; have HO292 := n2_; have HL294_1 := n3_; have HL294_2 := n4_; have HO297 := n5_; have BK265 := n6_; have HR294_1 := n7_; have HR294_2 := n8_; have HB := n9_; clear n0_ n1_ n2_ n3_ n4_ n5_ n6_ n7_ n8_ n9_; clear hb ho56; obtain ⟨Ao57, co57, eo57⟩ := Kd.R_slice HO297.out; subst eo57) | (go_at_call 27; (with_reducible refine (galoisref22_Same.calls kj8 _ _ ((rd_T66 t279 1).f1) _ _ y295 t298 _ ?side1 ?side2 ?side3 ?side4 A42.out).mono ?_); (case side1 => repeat (first | exact (by repeat (first | (with_reducible exact HR294_1.out) | (with_reducible refine Kd.C_alloc ?_ _) | (with_reducible refine Kd.C_drewN ?_ _) | (with_reducible refine Kd.C_drew ?_) | exact HR294_1.out)) | (with_reducible refine Kd.C_alloc ?_ _) | (with_reducible refine Kd.C_drewN ?_ _) | (with_reducible refine Kd.C_drew ?_))); (case side2 => exact HC294_1.out); (case side3 => repeat (first | exact (Kd.R_reads' HO297.out).2.2 | (with_reducible refine Kd.C_alloc ?_ _) | (with_reducible refine Kd.C_drewN ?_ _) | (with_reducible refine Kd.C_drew ?_))); (case side4 => exact (Kd.R_reads' HO297.out).2.1); rintro e w' ⟨rfl, ⟨nd, rfl⟩⟩))
            go_ret
            exact ⟨by first | rfl | (simp [errW_none, errW_some] <;> rfl) | (simp [*, errW_none, errW_some] <;> rfl), by repeat (first | (with_reducible first | exact HB.out | apply below_alloc | apply pw_below_drewN | apply below_drew1 | refine below_set ?_ GE265.out) | exact HB.out)⟩
          · rw [if_neg c41] at H
            exact absurd H (by simp)
        · replace c40 := Bool.eq_false_iff.mpr c40
          subst c40
          have H1 : (some false) = some r := by rw [if_neg (show ¬ (false = true) by decide)] at H; exact H
          clear H
          have H := H1
          clear H1
          obtain rfl := Option.some.inj H
          have hcz58_0 : wc.cell? ⟨gb265, 0, none⟩ = some (.int .i64 t260) := (blk_cell BK265.out 0).trans rfl
          have hcz58_1 : wc.cell? ⟨gb265, 1, none⟩ = some (.slice Ao18 t261.length co18) := (blk_cell BK265.out 1).trans rfl
          have hfz58_0 := blk_frozen BK265.out 0
          have hfz58_1 := blk_frozen BK265.out 1
          go_wp2_with (first | ((with_reducible refine gate_dst (N := 65) rfl ?_); (try (refine gate_guard (by rfl) ?_; dsimp only)); refine Kd.R_lit (Kd.int .i64) _ 3 ?hg (N := 65) ?hd (xs := ([0, 3, 2, 1] : List Int)) (inner := [.int .i64 0, .int .i64 3, .int .i64 2, .int .i64 1]) (ok := fun _ => True) (okp := fun _ => True) ?hr ?hp (fun _ hk => hk) trivial (Below.refl _ _) (Nat.le_refl _) (by simp) ?_; (case hd => rfl); (case hg => rfl); (case hr => first | (go_simp; done) | (go_simp; rfl)); (case hp => exact (Reps.one (show Kd.M (Kd.int .i64) _ _ _ 0 [.int .i64 0] from rfl) (Reps.one (show Kd.M (Kd.int .i64) _ _ _ 3 [.int .i64 3] from rfl) (Reps.one (show Kd.M (Kd.int .i64) _ _ _ 2 [.int .i64 2] from rfl) (Reps.one (show Kd.M (Kd.int .i64) _ _ _ 1 [.int .i64 1] from rfl) (Reps.none _ _)))))); intro v285 w59 ho60 hb hg_ hnew_; clear hg_ hnew_; (first | rw [← Ny284.out] at ho60 | (simp only [Int.reduceToNat] at ho60; rw [← Ny284.out] at ho60)); have n0_ := Aside0.mk (Kd.N_elder' (by (with_reducible repeat (first | apply Kd.N_alloc | apply Kd.N_drewN | apply Kd.N_drew)); exact HO_7.out) (Kd.R_base ho60) hb); have n1_ := Aside0.mk (Kd.N_elder' (by (with_reducible repeat (first | apply Kd.N_alloc | apply Kd.N_drewN | apply Kd.N_drew)); exact HO_266001.out) (Kd.R_base ho60) hb); have n2_ := Aside0.mk (Kd.R_lower ho60 (below_size (by repeat (first | (with_reducible first | exact HB.out | apply below_alloc | apply pw_below_drewN | apply below_drew1 | refine below_set ?_ GE265.out) | exact HB.out)))); have n3_ := Aside0.mk (blk_below (g := gb265) (o := .cells #[.int .i64 t260, .slice Ao18 t261.length co18] 24 (0, 0)) (by (with_reducible repeat (first | refine blk_drewN ?_ _ | refine blk_drew ?_ | refine blk_alloc ?_ _)); exact BK265.out) hb); have n4_ := Aside0.mk (below_step (by repeat (first | (with_reducible first | exact HB.out | apply below_alloc | apply pw_below_drewN | apply below_drew1 | refine below_set ?_ GE265.out) | exact HB.out)) hb); clear HO_7; clear HO_266001; clear BK265; clear HB; have HO_7 := n0_; have HO_266001 := n1_; have HO286 := n2_; have BK265 := n3_; have HB := n4_; clear n0_ n1_ n2_ n3_ n4_; clear hb ho60) | ((with_reducible refine gate_dst (N := 66) rfl ?_); (try (refine gate_guard (by rfl) ?_; dsimp only)); refine Kd.R_lit (Kd.int .i64) _ 3 ?hg (N := 66) ?hd (xs := ([1, 0, 3, 2] : List Int)) (inner := [.int .i64 1, .int .i64 0, .int .i64 3, .int .i64 2]) (ok := fun _ => True) (okp := fun _ => True) ?hr ?hp (fun _ hk => hk) trivial (Below.refl _ _) (Nat.le_refl _) (by simp) ?_; (case hd => rfl); (case hg => rfl); (case hr => first | (go_simp; done) | (go_simp; rfl)); (case hp => exact (Reps.one (show Kd.M (Kd.int .i64) _ _ _ 1 [.int .i64 1] from rfl) (Reps.one (show Kd.M (Kd.int .i64) _ _ _ 0 [.int .i64 0] from rfl) (Reps.one (show Kd.M (Kd.int .i64) _ _ _ 3 [.int .i64 3] from rfl) (Reps.one (show Kd.M (Kd.int .i64) _ _ _ 2 [.int .i64 2] from rfl) (Reps.none _ _)))))); intro v288 w61 ho62 hb hg_ hnew_; clear hg_ hnew_; (first | rw [← Ny287.out] at ho62 | (simp only [Int.reduceToNat] at ho62; rw [← Ny287.out] at ho62)); have n0_ := Aside0.mk (Kd.N_elder' (by (with_reducible repeat (first | apply Kd.N_alloc | apply Kd.N_drewN | apply Kd.N_drew)); exact HO_7.out) (Kd.R_base ho62) hb); have n1_ := Aside0.mk (Kd.N_elder' (by (with_reducible repeat (first | apply Kd.N_alloc | apply Kd.N_drewN | apply Kd.N_drew)); exact HO_266001.out) (Kd.R_base ho62) hb); have n2_ := Aside0.mk (Kd.R_elder' (by (with_reducible repeat (first | apply Kd.R_alloc | apply Kd.R_drewN | apply Kd.R_drew)); exact HO286.out) (Kd.R_base ho62) hb); have n3_ := Aside0.mk (Kd.R_lower (Kd.R_new' ho62 (Kd.R_lt (by (with_reducible repeat (first | apply Kd.R_alloc | apply Kd.R_drewN | apply Kd.R_drew)); exact HO286.out))) (below_size (by repeat (first | (with_reducible first | exact HB.out | apply below_alloc | apply pw_below_drewN | apply below_drew1 | refine below_set ?_ GE265.out) | exact HB.out)))); have n4_ := Aside0.mk (blk_below (g := gb265) (o := .cells #[.int .i64 t260, .slice Ao18 t261.length co18] 24 (0, 0)) (by (with_reducible repeat (first | refine blk_drewN ?_ _ | refine blk_drew ?_ | refine blk_alloc ?_ _)); exact BK265.out) hb); have n5_ := Aside0.mk (below_step (by repeat (first | (with_reducible first | exact HB.out | apply below_alloc | apply pw_below_drewN | apply below_drew1 | refine below_set ?_ GE265.out) | exact HB.out)) hb); clear HO_7; clear HO_266001; clear HO286; clear BK265; clear HB; have HO_7 := n0_; have HO_266001 := n1_; have HO286 := n2_; have HO289 := n3_; have BK265 := n4_; have HB := n5_; clear n0_ n1_ n2_ n3_ n4_ n5_; clear hb ho62; obtain ⟨Ao63, co63, eo63⟩ := Kd.R_slice HO286.out; subst eo63; obtain ⟨Ao64, co64, eo64⟩ := Kd.R_slice HO289.out; subst eo64) | ((with_reducible refine gate_dst (N := 67) rfl ?_); (try (refine gate_guard (by rfl) ?_; dsimp only)); refine Kd.N_lit (Kd.slice 3 (Kd.int .i64)) _ 47 ?hg (N' := 67) ?hd (xs := ([y284, y287] : List (List Int))) (inner := [.slice Ao63 y284.length co63, .slice Ao64 y287.length co64]) (ok := (fun k_ => some k_ ≠ (v280 : Value).ownBlock ∧ some k_ ≠ (.slice Ao18 t261.length co18 : Value).ownBlock ∧ k_ ≠ gb265)) (okp := (fun k_ => some k_ ≠ (v280 : Value).ownBlock ∧ some k_ ≠ (.slice Ao18 t261.length co18 : Value).ownBlock ∧ k_ ≠ gb265)) ?hr ?hp (fun _ hk => hk) ((show ∀ k_, w61.heap.size ≤ k_ → (fun k_ => some k_ ≠ (v280 : Value).ownBlock ∧ some k_ ≠ (.slice Ao18 t261.length co18 : Value).ownBlock ∧ k_ ≠ gb265) k_ from fun k_ hk => ⟨Kd.fresh' (Kd.N_lt (by (with_reducible repeat (first | apply Kd.N_alloc | apply Kd.N_drewN | apply Kd.N_drew)); exact HO_7.out)) k_ hk, Kd.fresh' (Kd.N_lt (by (with_reducible repeat (first | apply Kd.N_alloc | apply Kd.N_drewN | apply Kd.N_drew)); exact HO_266001.out)) k_ hk, Kd.freshB (g := gb265) (o := .cells #[.int .i64 t260, .slice Ao18 t261.length co18] 24 (0, 0)) (by (with_reducible repeat (first | refine blk_drewN ?_ _ | refine blk_drew ?_ | refine blk_alloc ?_ _)); exact BK265.out) k_ hk⟩) _ (Nat.le_refl _)) (Below.refl _ _) (Nat.le_refl _) (by simp) ?_; (case hd => rfl); (case hg => rfl); (case hr => first | (go_simp; done) | (go_simp; rfl)); (case hp => exact (Reps.one (show Kd.FK (Kd.slice 3 (Kd.int .i64)) _ _ y284 [.slice Ao63 y284.length co63] from (Kd.FK_slice_mk (Kd.R_reads' (Kd.R_mono (ok' := (fun k_ => some k_ ≠ (v280 : Value).ownBlock ∧ some k_ ≠ (.slice Ao18 t261.length co18 : Value).ownBlock ∧ k_ ≠ gb265)) (Kd.R_types (Kd.R_apart' (Kd.R_apart' (HO286.out) (Kd.N_typed HO_7.out) (by decide)) (Kd.N_typed HO_266001.out) (by decide)) BK265.out (by decide)) (fun k_ hk => ⟨hk.1.1.2, ⟨hk.1.2, hk.2⟩⟩))).2.1 (Kd.R_F (Kd.R_mono (ok' := (fun k_ => some k_ ≠ (v280 : Value).ownBlock ∧ some k_ ≠ (.slice Ao18 t261.length co18 : Value).ownBlock ∧ k_ ≠ gb265)) (Kd.R_types (Kd.R_apart' (Kd.R_apart' (HO286.out) (Kd.N_typed HO_7.out) (by decide)) (Kd.N_typed HO_266001.out) (by decide)) BK265.out (by decide)) (fun k_ hk => ⟨hk.1.1.2, ⟨hk.1.2, hk.2⟩⟩))))) (Reps.one (show Kd.FK (Kd.slice 3 (Kd.int .i64)) _ _ y287 [.slice Ao64 y287.length co64] from (Kd.FK_slice_mk (Kd.R_reads' (Kd.R_mono (ok' := (fun k_ => some k_ ≠ (v280 : Value).ownBlock ∧ some k_ ≠ (.slice Ao18 t261.length co18 : Value).ownBlock ∧ k_ ≠ gb265)) (Kd.R_types (Kd.R_apart' (Kd.R_apart' (HO289.out) (Kd.N_typed HO_7.out) (by decide)) (Kd.N_typed HO_266001.out) (by decide)) BK265.out (by decide)) (fun k_ hk => ⟨hk.1.1.2, ⟨hk.1.2, hk.2⟩⟩))).2.1 (Kd.R_F (Kd.R_mono (ok' := (fun k_ => some k_ ≠ (v280 : Value).ownBlock ∧ some k_ ≠ (.slice Ao18 t261.length co18 : Value).ownBlock ∧ k_ ≠ gb265)) (Kd.R_types (Kd.R_apart' (Kd.R_apart' (HO289.out) (Kd.N_typed HO_7.out) (by decide)) (Kd.N_typed HO_266001.out) (by decide)) BK265.out (by decide)) (fun k_ hk => ⟨hk.1.1.2, ⟨hk.1.2, hk.2⟩⟩))))) (Reps.none _ _)))); intro v291 w65 ho66 hb hg_ hnew_; clear hg_ hnew_; (first | rw [← Ny290.out] at ho66 | (simp only [Int.reduceToNat] at ho66; rw [← Ny290.out] at ho66)); have n0_ := Aside0.mk (Kd.N_elder' (by (with_reducible repeat (first | apply Kd.N_alloc | apply Kd.N_drewN | apply Kd.N_drew)); exact HO_7.out) (by first | exact Kd.N_base ho66 | exact Kd.S_base ho66 | exact Kd.R_base ho66) hb); have n1_ := Aside0.mk (Kd.N_elder' (by (with_reducible repeat (first | apply Kd.N_alloc | apply Kd.N_drewN | apply Kd.N_drew)); exact HO_266001.out) (by first | exact Kd.N_base ho66 | exact Kd.S_base ho66 | exact Kd.R_base ho66) hb); have n2_ := Aside0.mk (Kd.N_lower ho66 (below_size (by repeat (first | (with_reducible first | exact HB.out | apply below_alloc | apply pw_below_drewN | apply below_drew1 | refine below_set ?_ GE265.out) | exact HB.out)))); have n3_ := Aside0.mk (blk_below (g := gb265) (o := .cells #[.int .i64 t260, .slice Ao18 t261.length co18] 24 (0, 0)) (by (with_reducible repeat (first | refine blk_drewN ?_ _ | refine blk_drew ?_ | refine blk_alloc ?_ _)); exact BK265.out) hb); have n4_ := Aside0.mk (below_step (by repeat (first | (with_reducible first | exact HB.out | apply below_alloc | apply pw_below_drewN | apply below_drew1 | refine below_set ?_ GE265.out) | exact HB.out)) hb); clear HO_7; clear HO_266001; clear BK265; clear HB; clear HO286; clear HO289; have HO_7 := n0_; have HO_266001 := n1_; have HO292 := n2_; have BK265 := n3_; have HB := n4_; clear n0_ n1_ n2_ n3_ n4_; clear hb ho66; obtain ⟨Ao67, co67, eo67⟩ := Kd.N_slice HO292.out; subst eo67) | ((with_reducible refine gate_callee (f := 20) rfl ?_); refine goesL_ (some 69) rfl rfl Try.func20 (by kernel_rfl) rfl #[.agg #[.int .i64 t260, .slice Ao18 t261.length co18], .agg #[.int .i64 4, .slice Ao67 y290.length co67]] rfl (by (try simp only [List.map_toArray, List.map_cons, List.map_nil]); first | done | rfl | (simp only [List.length_drop, List.length_take]; rfl)) ?_; (with_reducible refine (galoisref23_Equal.calls kj8 t260 _ _ t261 4 _ _ y290 false _ ?side1 ?side2 ?side3 ?side4 A39.out).mono ?_); (case side1 => repeat (first | exact (Kd.N_reads' HO_266001.out).2.2 | (with_reducible refine Kd.C_alloc ?_ _) | (with_reducible refine Kd.C_drewN ?_ _) | (with_reducible refine Kd.C_drew ?_))); (case side2 => exact (Kd.N_reads' HO_266001.out).2.1); (case side3 => repeat (first | exact (Kd.N_reads' HO292.out).2.2 | (with_reducible refine Kd.C_alloc ?_ _) | (with_reducible refine Kd.C_drewN ?_ _) | (with_reducible refine Kd.C_drew ?_))); (case side4 => exact (Kd.N_reads' HO292.out).2.1); rintro e w68 ⟨rfl, hb⟩; refine ⟨_, rfl, ?_⟩; have n0_ := Aside0.mk (Kd.N_below (by (with_reducible repeat (first | apply Kd.N_alloc | apply Kd.N_drewN | apply Kd.N_drew)); exact HO_7.out) hb); have n1_ := Aside0.mk (Kd.N_below (by (with_reducible repeat (first | apply Kd.N_alloc | apply Kd.N_drewN | apply Kd.N_drew)); exact HO_266001.out) hb); have n2_ := Aside0.mk (Kd.N_below (by (with_reducible repeat (first | apply Kd.N_alloc | apply Kd.N_drewN | apply Kd.N_drew)); exact HO292.out) hb); have n3_ := Aside0.mk (blk_below (g := gb265) (o := .cells #[.int .i64 t260, .slice Ao18 t261.length co18] 24 (0, 0)) (by (with_reducible repeat (first | refine blk_drewN ?_ _ | refine blk_drew ?_ | refine blk_alloc ?_ _)); exact BK265.out) hb); have n4_ := Aside0.mk (below_step (by repeat (first | (with_reducible first | exact HB.out | apply below_alloc | apply pw_below_drewN | apply below_drew1 | refine below_set ?_ GE265.out) | exact HB.out)) hb); clear HO_7; clear HO_266001; clear HO292; clear BK265; clear HB; have HO_7 := n0_; have HO_266001 := n1_; have HO292 := n2_; have BK265 := n3_; have HB := n4_; clear n0_ n1_ n2_ n3_ n4_; (try clear hb); (try clear hb2); (try clear hk); (try clear hi)))
          go_ret
          exact ⟨by first | rfl | (simp [errW_none, errW_some] <;> rfl) | (simp [*, errW_none, errW_some] <;> rfl), by repeat (first | (with_reducible first | exact HB.out | apply below_alloc | apply pw_below_drewN | apply below_drew1 | refine below_set ?_ GE265.out) | exact HB.out)⟩
mutual
def galoisref22_Check.l0 : Nat → List Int → Int → Option (Int)
  | 0, _, _ => none
  | k + 1, x0, x3 => if x3 < (x0.length : Int) then (if 0 ≤ x3 then (if (rd x0 x3) < 0 then (galoisref22_Check.j1 k x0 x3 true) else (galoisref22_Check.j1 k x0 x3 (decide ((rd x0 x3) ≥ (x0.length : Int))))) else (none)) else (some 0)
def galoisref22_Check.j1 : Nat → List Int → Int → Bool → Option (Int)
  | 0, _, _, _ => none
  | k + 1, x0, x3, x27 => if x27 = true then (some 3) else (galoisref22_Check.l1 k x0 x3 0)
def galoisref22_Check.l1 : Nat → List Int → Int → Int → Option (Int)
  | 0, _, _, _ => none
  | k + 1, x0, x3, x4 => if x4 < x3 then (if 0 ≤ x4 then (if x4 < (x0.length : Int) then (if 0 ≤ x3 then (if x3 < (x0.length : Int) then (if (rd x0 x4) = (rd x0 x3) then (some 24) else (galoisref22_Check.l1 k x0 x3 (wrap64 (x4 + 1)))) else (none)) else (none)) else (none)) else (none)) else (galoisref22_Check.l0 k x0 (wrap64 (x3 + 1)))
end
def galoisref22_Check.f (k : Nat) (l0 : List Int) : Option (Int) := if (l0.length : Int) > 20 then (some 4) else (galoisref22_Check.l0 k l0 0)
theorem galoisref22_Check.mono_l : ∀ k, (∀ y0 y1, LeO (galoisref22_Check.l0 k y0 y1) (galoisref22_Check.l0 (k + 1) y0 y1)) ∧ (∀ y0 y1 y2, LeO (galoisref22_Check.j1 k y0 y1 y2) (galoisref22_Check.j1 (k + 1) y0 y1 y2)) ∧ (∀ y0 y1 y2, LeO (galoisref22_Check.l1 k y0 y1 y2) (galoisref22_Check.l1 (k + 1) y0 y1 y2))
  | 0 => ⟨fun _ _ r h => by simp [galoisref22_Check.l0] at h, fun _ _ _ r h => by simp [galoisref22_Check.j1] at h, fun _ _ _ r h => by simp [galoisref22_Check.l1] at h⟩
  | k + 1 => by
    obtain ⟨ih0, ih1, ih2⟩ := galoisref22_Check.mono_l k
    refine ⟨?_, ?_, ?_⟩
    · intro y0 y1
      unfold galoisref22_Check.l0
      repeat' first
      | (with_reducible exact ih0 _ _)
      | (with_reducible exact ih1 _ _ _)
      | (with_reducible exact ih2 _ _ _)
      | (with_reducible exact LeO.refl _)
      | (with_reducible exact LeO.none _)
      | (with_reducible refine LeO.ite ?_ ?_)
      | (with_reducible refine LeO.bind ?_ (fun _ => ?_))
      | exact ih0 _ _
      | exact ih1 _ _ _
      | exact ih2 _ _ _
      | exact LeO.none _
      | refine LeO.ite ?_ ?_
      | refine LeO.bind ?_ (fun _ => ?_)
    · intro y0 y1 y2
      unfold galoisref22_Check.j1
      repeat' first
      | (with_reducible exact ih0 _ _)
      | (with_reducible exact ih1 _ _ _)
      | (with_reducible exact ih2 _ _ _)
      | (with_reducible exact LeO.refl _)
      | (with_reducible exact LeO.none _)
      | (with_reducible refine LeO.ite ?_ ?_)
      | (with_reducible refine LeO.bind ?_ (fun _ => ?_))
      | exact ih0 _ _
      | exact ih1 _ _ _
      | exact ih2 _ _ _
      | exact LeO.none _
      | refine LeO.ite ?_ ?_
      | refine LeO.bind ?_ (fun _ => ?_)
    · intro y0 y1 y2
      unfold galoisref22_Check.l1
      repeat' first
      | (with_reducible exact ih0 _ _)
      | (with_reducible exact ih1 _ _ _)
      | (with_reducible exact ih2 _ _ _)
      | (with_reducible exact LeO.refl _)
      | (with_reducible exact LeO.none _)
      | (with_reducible refine LeO.ite ?_ ?_)
      | (with_reducible refine LeO.bind ?_ (fun _ => ?_))
      | exact ih0 _ _
      | exact ih1 _ _ _
      | exact ih2 _ _ _
      | exact LeO.none _
      | refine LeO.ite ?_ ?_
      | refine LeO.bind ?_ (fun _ => ?_)
theorem galoisref22_Check.mono : ∀ a0 k, LeO (galoisref22_Check.f k a0) (galoisref22_Check.f (k + 1) a0) := by
  intro a0 k
  obtain ⟨ih0, ih1, ih2⟩ := galoisref22_Check.mono_l k
  unfold galoisref22_Check.f
  repeat' first
      | (with_reducible exact ih0 _ _)
      | (with_reducible exact ih1 _ _ _)
      | (with_reducible exact ih2 _ _ _)
      | (with_reducible exact LeO.refl _)
      | (with_reducible exact LeO.none _)
      | (with_reducible refine LeO.ite ?_ ?_)
      | (with_reducible refine LeO.bind ?_ (fun _ => ?_))
      | exact ih0 _ _
      | exact ih1 _ _ _
      | exact ih2 _ _ _
      | exact LeO.none _
      | refine LeO.ite ?_ ?_
      | refine LeO.bind ?_ (fun _ => ?_)
set_option maxHeartbeats 8000000 in
set_option maxRecDepth 100000 in
theorem galoisref22_Check.calls (k : Nat) (A0 : Option Addr) (c0 : Nat) (l0 : List Int) (r : Int) (w : World) (hr0 : Kd.C (Kd.int .i64) w A0 l0.length l0) (hc0 : l0.length ≤ c0) (h : galoisref22_Check.f k l0 = some r) :
    Calls Try.prog 36 #[.slice A0 l0.length c0] w fun e w' => e = .returned (.int .i64 r) ∧ Drawn0 w w' := by
  have HR0 := Aside0.mk hr0
  have HC0 := Aside0.mk hc0
  clear hr0 hc0
  have H : (if (l0.length : Int) > 20 then (some 4) else (galoisref22_Check.l0 k l0 0)) = some r := h
  clear h
  by_cases c2 : (l0.length : Int) > 20
  · rw [if_pos c2] at H
    have c2b0 : decide (20 < (l0.length : Int)) = true := decide_eq_true c2
    have c2b1 : decide (20 < l0.length) = true := decide_eq_true (by omega)
    clear c2
    obtain rfl := Option.some.inj H
    go_enter Try.func36, Try.ntmps36
    go_wp2
    repeat (go_quiet (fail); try go_wp2)
    go_ret
    exact ⟨by first | rfl | (simp; done) | (simp [*]; done), by repeat (first | exact Drawn0.refl _ | apply Drawn0.step)⟩
  · rw [if_neg c2] at H
    have c2b0 : decide (20 < (l0.length : Int)) = false := decide_eq_false c2
    have c2b1 : decide (20 < l0.length) = false := decide_eq_false (by omega)
    clear c2
    have H' := Aside0.mk H
    clear H
    go_enter Try.func36, Try.ntmps36
    go_wp2
    repeat (go_quiet (fail); try go_wp2)
    go_loopg [3] k (fun kq v3 w' => ∃ (x3_1 : Int), v3 = .int .i64 x3_1 ∧ Aside0 (galoisref22_Check.l0 kq l0 x3_1 = some r) ∧ Aside0 (kq ≤ k) ∧ Drawn0 w w')
    case atStart => exact ⟨(0), (by first | rfl | (simp; done) | (simp [*]; done)), H', ⟨Nat.le_refl _⟩, by repeat (first | exact Drawn0.refl _ | apply Drawn0.step)⟩
    case round =>
      clear H'
      try clear c2
      try clear c2b0
      try clear c2b1
      try clear p2
      obtain ⟨x3_1, rfl, HA, HK1, ⟨m1, rfl⟩⟩ := hrel
      cases gk with
      | zero => exact absurd HA.out (by simp [galoisref22_Check.l0])
      | succ k1 =>
        have H := HA.out
        clear HA
        simp only [galoisref22_Check.l0] at H
        by_cases c3 : x3_1 < (l0.length : Int)
        · rw [if_pos c3] at H
          have c3b0 : decide (x3_1 < (l0.length : Int)) = true := decide_eq_true c3
          clear c3
          have HC4 := Aside0.mk H
          clear H
          go_upto_region 6 with (fail)
          repeat (go_quiet (fail); go_upto_region 6 with (fail))
          go_cut [27] (fun v27 wc => ∃ (kq : Nat) (x27_3 : Bool), v27 = .bool x27_3 ∧ Aside0 (galoisref22_Check.j1 kq l0 x3_1 x27_3 = some r) ∧ Aside0 (kq ≤ k1) ∧ Drawn0 w wc)
          case first =>
            have H := HC4.out
            clear HC4
            by_cases c5 : 0 ≤ x3_1
            · rw [if_pos c5] at H
              have c5b0 : decide (0 ≤ x3_1) = true := decide_eq_true c5
              clear c5
              (first | rw [c5b0] | (simp only [i64_w, i32_w]; rw [c5b0]) | skip)
              by_cases c6 : (rd l0 x3_1) < 0
              · rw [if_pos c6] at H
                have c6b0 : decide ((rd l0 x3_1) < 0) = true := decide_eq_true c6
                clear c6
                have H' := Aside0.mk H
                clear H
                have p299 : 0 ≤ (x3_1 : Int) := of_decide_eq_true (by first | (with_reducible assumption) | assumption)
                have q299 : x3_1 < (l0.length : Int) := of_decide_eq_true (by first | (with_reducible assumption) | assumption)
                obtain ⟨ad299, e299, hx299_0⟩ := Kd.at_int HR0.out x3_1 p299 q299
                cases e299
                replace p299 := eq_true p299
                replace q299 := eq_true q299
                go_wp2
                repeat (go_quiet (fail); try go_wp2)
                go_meet
                case rel => exact ⟨_, (true), (by first | rfl | (simp; done) | (simp [*]; done)), H', ⟨by have := HK1.out; first | omega | exact Nat.le_refl _⟩, by repeat (first | exact Drawn0.refl _ | apply Drawn0.step)⟩
              · rw [if_neg c6] at H
                have c6b0 : decide ((rd l0 x3_1) < 0) = false := decide_eq_false c6
                clear c6
                have H' := Aside0.mk H
                clear H
                have p299 : 0 ≤ (x3_1 : Int) := of_decide_eq_true (by first | (with_reducible assumption) | assumption)
                have q299 : x3_1 < (l0.length : Int) := of_decide_eq_true (by first | (with_reducible assumption) | assumption)
                obtain ⟨ad299, e299, hx299_0⟩ := Kd.at_int HR0.out x3_1 p299 q299
                cases e299
                replace p299 := eq_true p299
                replace q299 := eq_true q299
                have p300 : 0 ≤ (x3_1 : Int) := of_decide_eq_true (by first | (with_reducible assumption) | assumption)
                have q300 : x3_1 < (l0.length : Int) := of_decide_eq_true (by first | (with_reducible assumption) | assumption)
                obtain ⟨ad300, e300, hx300_0⟩ := Kd.at_int HR0.out x3_1 p300 q300
                obtain rfl : ad299 = ad300 := (by injection e300)
                replace p300 := eq_true p300
                replace q300 := eq_true q300
                go_wp2
                repeat (go_quiet (fail); try go_wp2)
                go_meet
                case rel => exact ⟨_, (decide ((rd l0 x3_1) ≥ (l0.length : Int))), (by first | rfl | (simp; done) | (simp [*]; done)), H', ⟨by have := HK1.out; first | omega | exact Nat.le_refl _⟩, by repeat (first | exact Drawn0.refl _ | apply Drawn0.step)⟩
            · rw [if_neg c5] at H
              exact absurd H (by simp)
          case rest =>
            clear HC4
            try clear c2
            try clear c2b0
            try clear c2b1
            try clear p2
            try clear q2
            try clear hx2
            try clear c3
            try clear c3b0
            try clear p3
            try clear q3
            try clear hx3
            try clear c5
            try clear c5b0
            try clear c6
            try clear c6b0
            try clear hx299_0
            try clear hx300_0
            try clear p2
            try clear p299
            try clear p300
            try clear q299
            try clear q300
            obtain ⟨kq, x27_3, rfl, HA, HJ3, ⟨mc3, rfl⟩⟩ := hcut
            cases kq with
            | zero => exact absurd HA.out (by simp [galoisref22_Check.j1])
            | succ kj3 =>
              have H := HA.out
              clear HA
              simp only [galoisref22_Check.j1] at H
              by_cases c7 : x27_3 = true
              · subst c7
                have H1 : (some 3) = some r := by rw [if_pos rfl] at H; exact H
                clear H
                have H := H1
                clear H1
                obtain rfl := Option.some.inj H
                go_wp2
                repeat (go_quiet (fail); try go_wp2)
                go_ret
                exact ⟨by first | rfl | (simp; done) | (simp [*]; done), by repeat (first | exact Drawn0.refl _ | apply Drawn0.step)⟩
              · replace c7 := Bool.eq_false_iff.mpr c7
                subst c7
                have H1 : (galoisref22_Check.l1 kj3 l0 x3_1 0) = some r := by rw [if_neg (show ¬ (false = true) by decide)] at H; exact H
                clear H
                have H := H1
                clear H1
                have H' := Aside0.mk H
                clear H
                go_wp2
                repeat (go_quiet (fail); try go_wp2)
                go_loopg [4] kj3 (fun kq v4 w' => ∃ (x4_3 : Int), v4 = .int .i64 x4_3 ∧ Aside0 (galoisref22_Check.l1 kq l0 x3_1 x4_3 = some r) ∧ Aside0 (kq ≤ kj3) ∧ Drawn0 w w')
                case atStart => exact ⟨(0), (by first | rfl | (simp; done) | (simp [*]; done)), H', ⟨Nat.le_refl _⟩, by repeat (first | exact Drawn0.refl _ | apply Drawn0.step)⟩
                case round =>
                  clear H'
                  try clear c2
                  try clear c2b0
                  try clear c2b1
                  try clear p2
                  try clear q2
                  try clear hx2
                  try clear c3
                  try clear c3b0
                  try clear p3
                  try clear q3
                  try clear hx3
                  try clear c5
                  try clear c5b0
                  try clear c6
                  try clear c6b0
                  try clear c7
                  try clear hx299_0
                  try clear hx300_0
                  try clear p2
                  try clear p299
                  try clear p3
                  try clear p300
                  try clear q2
                  try clear q299
                  try clear q3
                  try clear q300
                  obtain ⟨x4_3, rfl, HA, HK3, ⟨m3, rfl⟩⟩ := hrel
                  cases gk with
                  | zero => exact absurd HA.out (by simp [galoisref22_Check.l1])
                  | succ k3 =>
                    have H := HA.out
                    clear HA
                    simp only [galoisref22_Check.l1] at H
                    by_cases c8 : x4_3 < x3_1
                    · rw [if_pos c8] at H
                      have c8b0 : decide (x4_3 < x3_1) = true := decide_eq_true c8
                      clear c8
                      by_cases c9 : 0 ≤ x4_3
                      · rw [if_pos c9] at H
                        have c9b0 : decide (0 ≤ x4_3) = true := decide_eq_true c9
                        clear c9
                        by_cases c10 : x4_3 < (l0.length : Int)
                        · rw [if_pos c10] at H
                          have c10b0 : decide (x4_3 < (l0.length : Int)) = true := decide_eq_true c10
                          clear c10
                          by_cases c11 : 0 ≤ x3_1
                          · rw [if_pos c11] at H
                            have c11b0 : decide (0 ≤ x3_1) = true := decide_eq_true c11
                            clear c11
                            by_cases c12 : x3_1 < (l0.length : Int)
                            · rw [if_pos c12] at H
                              have c12b0 : decide (x3_1 < (l0.length : Int)) = true := decide_eq_true c12
                              clear c12
                              by_cases c13 : (rd l0 x4_3) = (rd l0 x3_1)
                              · rw [if_pos c13] at H
                                have c13b0 : ((rd l0 x4_3) == (rd l0 x3_1)) = true := beq_iff_eq.mpr c13
                                have c13b1 : ((rd l0 x4_3) != (rd l0 x3_1)) = false := bne_eq_false_iff_eq.mpr c13
                                clear c13
                                obtain rfl := Option.some.inj H
                                have p301 : 0 ≤ (x4_3 : Int) := of_decide_eq_true (by first | (with_reducible assumption) | assumption)
                                have q301 : x4_3 < (l0.length : Int) := of_decide_eq_true (by first | (with_reducible assumption) | assumption)
                                obtain ⟨ad301, e301, hx301_0⟩ := Kd.at_int HR0.out x4_3 p301 q301
                                cases e301
                                replace p301 := eq_true p301
                                replace q301 := eq_true q301
                                have p302 : 0 ≤ (x3_1 : Int) := of_decide_eq_true (by first | (with_reducible assumption) | assumption)
                                have q302 : x3_1 < (l0.length : Int) := of_decide_eq_true (by first | (with_reducible assumption) | assumption)
                                obtain ⟨ad302, e302, hx302_0⟩ := Kd.at_int HR0.out x3_1 p302 q302
                                obtain rfl : ad301 = ad302 := (by injection e302)
                                replace p302 := eq_true p302
                                replace q302 := eq_true q302
                                go_wp2
                                repeat (go_quiet (fail); try go_wp2)
                                go_ret
                                exact ⟨by first | rfl | (simp; done) | (simp [*]; done), by repeat (first | exact Drawn0.refl _ | apply Drawn0.step)⟩
                              · rw [if_neg c13] at H
                                have c13b0 : ((rd l0 x4_3) == (rd l0 x3_1)) = false := beq_eq_false_iff_ne.mpr c13
                                have c13b1 : ((rd l0 x4_3) != (rd l0 x3_1)) = true := bne_iff_ne.mpr c13
                                have H' := Aside0.mk H
                                clear H
                                have p301 : 0 ≤ (x4_3 : Int) := of_decide_eq_true (by first | (with_reducible assumption) | assumption)
                                have q301 : x4_3 < (l0.length : Int) := of_decide_eq_true (by first | (with_reducible assumption) | assumption)
                                obtain ⟨ad301, e301, hx301_0⟩ := Kd.at_int HR0.out x4_3 p301 q301
                                cases e301
                                replace p301 := eq_true p301
                                replace q301 := eq_true q301
                                have p302 : 0 ≤ (x3_1 : Int) := of_decide_eq_true (by first | (with_reducible assumption) | assumption)
                                have q302 : x3_1 < (l0.length : Int) := of_decide_eq_true (by first | (with_reducible assumption) | assumption)
                                obtain ⟨ad302, e302, hx302_0⟩ := Kd.at_int HR0.out x3_1 p302 q302
                                obtain rfl : ad301 = ad302 := (by injection e302)
                                replace p302 := eq_true p302
                                replace q302 := eq_true q302
                                go_wp2
                                repeat (go_quiet (fail); try go_wp2)
                                go_roundg k3
                                case measure => have := HK1.out; have := HJ3.out; have := HK3.out; omega
                                case rel => exact ⟨(wrap64 (x4_3 + 1)), (by first | rfl | (simp; done) | (simp [*]; done)), H', ⟨by have := HK1.out; have := HJ3.out; have := HK3.out; omega⟩, by repeat (first | exact Drawn0.refl _ | apply Drawn0.step)⟩
                            · rw [if_neg c12] at H
                              exact absurd H (by simp)
                          · rw [if_neg c11] at H
                            exact absurd H (by simp)
                        · rw [if_neg c10] at H
                          exact absurd H (by simp)
                      · rw [if_neg c9] at H
                        exact absurd H (by simp)
                    · rw [if_neg c8] at H
                      have c8b0 : decide (x4_3 < x3_1) = false := decide_eq_false c8
                      clear c8
                      have H' := Aside0.mk H
                      clear H
                      go_wp2
                      repeat (go_quiet (fail); try go_wp2)
                      go_roundg k3
                      case measure => have := HK1.out; have := HJ3.out; have := HK3.out; omega
                      case rel => exact ⟨(wrap64 (x3_1 + 1)), (by first | rfl | (simp; done) | (simp [*]; done)), H', ⟨by have := HK1.out; have := HJ3.out; have := HK3.out; omega⟩, by repeat (first | exact Drawn0.refl _ | apply Drawn0.step)⟩
        · rw [if_neg c3] at H
          have c3b0 : decide (x3_1 < (l0.length : Int)) = false := decide_eq_false c3
          clear c3
          obtain rfl := Option.some.inj H
          go_wp2
          repeat (go_quiet (fail); try go_wp2)
          go_ret
          exact ⟨by first | rfl | (simp; done) | (simp [*]; done), by repeat (first | exact Drawn0.refl _ | apply Drawn0.step)⟩
def galoisref22_Degree.f (a0 : Int) : Option (Int) := if a0 < 0 then (some 3) else (if a0 > 20 then (some 4) else (some 0))
set_option maxHeartbeats 8000000 in
set_option maxRecDepth 100000 in
theorem galoisref22_Degree.calls (a0 : Int) (r : Int) (w : World) (h : galoisref22_Degree.f a0 = some r) :
    Calls Try.prog 45 #[.int .i64 a0] w fun e w' => e = .returned (.int .i64 r) ∧ Drawn0 w w' := by
  have H : (if a0 < 0 then (some 3) else (if a0 > 20 then (some 4) else (some 0))) = some r := h
  clear h
  by_cases c2 : a0 < 0
  · rw [if_pos c2] at H
    have c2b0 : decide (a0 < 0) = true := decide_eq_true c2
    clear c2
    obtain rfl := Option.some.inj H
    go_enter Try.func45, Try.ntmps45
    go_wp2
    go_ret
    exact ⟨by first | rfl | (simp; done) | (simp [*]; done), by repeat (first | exact Drawn0.refl _ | apply Drawn0.step)⟩
  · rw [if_neg c2] at H
    have c2b0 : decide (a0 < 0) = false := decide_eq_false c2
    clear c2
    by_cases c3 : a0 > 20
    · rw [if_pos c3] at H
      have c3b0 : decide (20 < a0) = true := decide_eq_true c3
      clear c3
      obtain rfl := Option.some.inj H
      go_enter Try.func45, Try.ntmps45
      go_wp2
      go_ret
      exact ⟨by first | rfl | (simp; done) | (simp [*]; done), by repeat (first | exact Drawn0.refl _ | apply Drawn0.step)⟩
    · rw [if_neg c3] at H
      have c3b0 : decide (20 < a0) = false := decide_eq_false c3
      clear c3
      obtain rfl := Option.some.inj H
      go_enter Try.func45, Try.ntmps45
      go_wp2
      go_ret
      exact ⟨by first | rfl | (simp; done) | (simp [*]; done), by repeat (first | exact Drawn0.refl _ | apply Drawn0.step)⟩
end Go.Proofs.Ytimlnejchieimaa.PCj
