-- Printed by wip/tools/mk.py of this repo (the kit's print with turns made in memory).
import Derived.Test.YtimlnejchieimaaZPermgroupMembersPMbx0
import Derived.Test.YtimlnejchieimaaZPermgroupMembersPMbx1
namespace Go.Proofs.Ytimlnejchieimaa.PMb
open Go.RowKit Go.Proofs.YtimlnejchieimaaW.PrintWords Go.Proofs.YtimlnejchieimaaW.PrintLast Go.Proofs.YtimlnejchieimaaW.PrintMore Go.Proofs.Ytimlnejchieimaa.PAll
attribute [local go_sem] max2_int min2_int max_two min_two max_three min_three max_four min_four   -- for this text's walks alone
set_option linter.unusedVariables false
set_option linter.unusedSimpArgs false
mutual
def galoislaw23_PermgroupMembers.j0 : Nat → List Int → Int → Bool → Int → List (List Int) → Option (Bool)
  | 0, _, _, _, _, _ => none
  | k + 1, x1, x2, x27, x226000, x226001 => if x27 = true then ((galoislaw23_awake.f).bind fun t228 => (some t228)) else ((permgroup_Contains.f k x226000 x226001 x1).bind fun bt229 => ((permgroup_Index.f k x226000 x226001 x1).bind fun bt231 => ((permgroup_Element.f k x226000 x226001 x2).bind fun bt233 => ((galoisref23_Check.f k x226000 x226001).bind fun t237 => (if t237 = 0 then ((galoisref23_Elements.f k x226000 x226001).bind fun bt238 => (if x2 < 0 then (galoislaw23_PermgroupMembers.j1 k x1 x2 bt229.1 bt229.2 bt231.1 bt231.2 bt233.1 bt233.2 bt238.1 true x226000 x226001) else (galoislaw23_PermgroupMembers.j1 k x1 x2 bt229.1 bt229.2 bt231.1 bt231.2 bt233.1 bt233.2 bt238.1 (decide (x2 ≥ (bt238.1.length : Int))) x226000 x226001))) else (if bt229.1 = true then (some false) else (if bt229.2 = t237 then (if bt231.1 = 0 then (if bt231.2 = t237 then (if (bt233.1.length : Int) = 0 then (some (bt233.2 == t237)) else (some false)) else (some false)) else (some false)) else (some false))))))))
def galoislaw23_PermgroupMembers.j1 : Nat → List Int → Int → Bool → Int → Int → Int → List Int → Int → List (List Int) → Bool → Int → List (List Int) → Option (Bool)
  | 0, _, _, _, _, _, _, _, _, _, _, _, _ => none
  | k + 1, x1, x2, x7, x8, x9, x10, x11, x12, x14, x89, x226000, x226001 => if x89 = true then (if (x11.length : Int) > 0 then (some false) else (if x12 = 3 then (galoislaw23_PermgroupMembers.j2 k x1 x7 x8 x9 x10 x14 x226000 x226001) else (some false))) else (if x12 = 0 then (if 0 ≤ x2 then (if x2 < (x14.length : Int) then ((galoisref22_Same.f k x11 (rd_L1 x14 x2)).bind fun t243 => (if t243 = true then (galoislaw23_PermgroupMembers.j2 k x1 x7 x8 x9 x10 x14 x226000 x226001) else (some false))) else (none)) else (none)) else (some false))
def galoislaw23_PermgroupMembers.j2 : Nat → List Int → Bool → Int → Int → Int → List (List Int) → Int → List (List Int) → Option (Bool)
  | 0, _, _, _, _, _, _, _, _ => none
  | k + 1, x1, x7, x8, x9, x10, x14, x226000, x226001 => (galoisref23_With.f k x226000 x226001 x1).bind fun t244 => (if t244 = 0 then ((galoisref23_Has.f k x14 x1).bind fun t245 => (if t245 = true then (if x7 = true then (if x8 = 0 then ((galoisref23_Place.f k x14 x1).bind fun t246 => (if x9 = t246 then (some (x10 == 0)) else (some false))) else (some false)) else (some false)) else (if x7 = true then (some false) else (if x8 = 0 then (if x9 = 0 then (some (x10 == 28)) else (some false)) else (some false))))) else (if x7 = true then (some false) else (if x8 = t244 then (if x9 = 0 then (some (x10 == t244)) else (some false)) else (some false))))
end
def galoislaw23_PermgroupMembers.f (k : Nat) (a0_0 : Int) (l0_1 : List (List Int)) (l1 : List Int) (a2 : Int) : Option (Bool) := (galoislaw23_awake.f).bind fun t226 => (if t226 = true then ((galoislaw23_large.f k a0_0 l0_1).bind fun t227 => (if t227 = true then (galoislaw23_PermgroupMembers.j0 k l1 a2 true a0_0 l0_1) else (galoislaw23_PermgroupMembers.j0 k l1 a2 (decide ((l1.length : Int) > 40)) a0_0 l0_1))) else (galoislaw23_PermgroupMembers.j0 k l1 a2 true a0_0 l0_1))
theorem galoislaw23_PermgroupMembers.mono_l : ∀ k, (∀ y0 y1 y2 y3 y4, LeO (galoislaw23_PermgroupMembers.j0 k y0 y1 y2 y3 y4) (galoislaw23_PermgroupMembers.j0 (k + 1) y0 y1 y2 y3 y4)) ∧ (∀ y0 y1 y2 y3 y4 y5 y6 y7 y8 y9 y10 y11, LeO (galoislaw23_PermgroupMembers.j1 k y0 y1 y2 y3 y4 y5 y6 y7 y8 y9 y10 y11) (galoislaw23_PermgroupMembers.j1 (k + 1) y0 y1 y2 y3 y4 y5 y6 y7 y8 y9 y10 y11)) ∧ (∀ y0 y1 y2 y3 y4 y5 y6 y7, LeO (galoislaw23_PermgroupMembers.j2 k y0 y1 y2 y3 y4 y5 y6 y7) (galoislaw23_PermgroupMembers.j2 (k + 1) y0 y1 y2 y3 y4 y5 y6 y7))
  | 0 => ⟨fun _ _ _ _ _ r h => by simp [galoislaw23_PermgroupMembers.j0] at h, fun _ _ _ _ _ _ _ _ _ _ _ _ r h => by simp [galoislaw23_PermgroupMembers.j1] at h, fun _ _ _ _ _ _ _ _ r h => by simp [galoislaw23_PermgroupMembers.j2] at h⟩
  | k + 1 => by
    obtain ⟨ih0, ih1, ih2⟩ := galoislaw23_PermgroupMembers.mono_l k
    refine ⟨?_, ?_, ?_⟩
    · intro y0 y1 y2 y3 y4
      unfold galoislaw23_PermgroupMembers.j0
      repeat' first
      | (with_reducible exact ih0 _ _ _ _ _)
      | (with_reducible exact ih1 _ _ _ _ _ _ _ _ _ _ _ _)
      | (with_reducible exact ih2 _ _ _ _ _ _ _ _)
      | (with_reducible exact galoislaw23_large.mono _ _ _)
      | (with_reducible exact galoisref22_Same.mono _ _ _)
      | (with_reducible exact galoisref23_Check.mono _ _ _)
      | (with_reducible exact galoisref23_Elements.mono _ _ _)
      | (with_reducible exact galoisref23_Has.mono _ _ _)
      | (with_reducible exact galoisref23_Place.mono _ _ _)
      | (with_reducible exact galoisref23_With.mono _ _ _ _)
      | (with_reducible exact permgroup_Contains.mono _ _ _ _)
      | (with_reducible exact permgroup_Element.mono _ _ _ _)
      | (with_reducible exact permgroup_Index.mono _ _ _ _)
      | (with_reducible exact LeO.refl _)
      | (with_reducible exact LeO.none _)
      | (with_reducible refine LeO.ite ?_ ?_)
      | (with_reducible refine LeO.bind ?_ (fun _ => ?_))
      | exact ih0 _ _ _ _ _
      | exact ih1 _ _ _ _ _ _ _ _ _ _ _ _
      | exact ih2 _ _ _ _ _ _ _ _
      | exact galoislaw23_large.mono _ _ _
      | exact galoisref22_Same.mono _ _ _
      | exact galoisref23_Check.mono _ _ _
      | exact galoisref23_Elements.mono _ _ _
      | exact galoisref23_Has.mono _ _ _
      | exact galoisref23_Place.mono _ _ _
      | exact galoisref23_With.mono _ _ _ _
      | exact permgroup_Contains.mono _ _ _ _
      | exact permgroup_Element.mono _ _ _ _
      | exact permgroup_Index.mono _ _ _ _
      | exact LeO.none _
      | refine LeO.ite ?_ ?_
      | refine LeO.bind ?_ (fun _ => ?_)
    · intro y0 y1 y2 y3 y4 y5 y6 y7 y8 y9 y10 y11
      unfold galoislaw23_PermgroupMembers.j1
      repeat' first
      | (with_reducible exact ih0 _ _ _ _ _)
      | (with_reducible exact ih1 _ _ _ _ _ _ _ _ _ _ _ _)
      | (with_reducible exact ih2 _ _ _ _ _ _ _ _)
      | (with_reducible exact galoislaw23_large.mono _ _ _)
      | (with_reducible exact galoisref22_Same.mono _ _ _)
      | (with_reducible exact galoisref23_Check.mono _ _ _)
      | (with_reducible exact galoisref23_Elements.mono _ _ _)
      | (with_reducible exact galoisref23_Has.mono _ _ _)
      | (with_reducible exact galoisref23_Place.mono _ _ _)
      | (with_reducible exact galoisref23_With.mono _ _ _ _)
      | (with_reducible exact permgroup_Contains.mono _ _ _ _)
      | (with_reducible exact permgroup_Element.mono _ _ _ _)
      | (with_reducible exact permgroup_Index.mono _ _ _ _)
      | (with_reducible exact LeO.refl _)
      | (with_reducible exact LeO.none _)
      | (with_reducible refine LeO.ite ?_ ?_)
      | (with_reducible refine LeO.bind ?_ (fun _ => ?_))
      | exact ih0 _ _ _ _ _
      | exact ih1 _ _ _ _ _ _ _ _ _ _ _ _
      | exact ih2 _ _ _ _ _ _ _ _
      | exact galoislaw23_large.mono _ _ _
      | exact galoisref22_Same.mono _ _ _
      | exact galoisref23_Check.mono _ _ _
      | exact galoisref23_Elements.mono _ _ _
      | exact galoisref23_Has.mono _ _ _
      | exact galoisref23_Place.mono _ _ _
      | exact galoisref23_With.mono _ _ _ _
      | exact permgroup_Contains.mono _ _ _ _
      | exact permgroup_Element.mono _ _ _ _
      | exact permgroup_Index.mono _ _ _ _
      | exact LeO.none _
      | refine LeO.ite ?_ ?_
      | refine LeO.bind ?_ (fun _ => ?_)
    · intro y0 y1 y2 y3 y4 y5 y6 y7
      unfold galoislaw23_PermgroupMembers.j2
      repeat' first
      | (with_reducible exact ih0 _ _ _ _ _)
      | (with_reducible exact ih1 _ _ _ _ _ _ _ _ _ _ _ _)
      | (with_reducible exact ih2 _ _ _ _ _ _ _ _)
      | (with_reducible exact galoislaw23_large.mono _ _ _)
      | (with_reducible exact galoisref22_Same.mono _ _ _)
      | (with_reducible exact galoisref23_Check.mono _ _ _)
      | (with_reducible exact galoisref23_Elements.mono _ _ _)
      | (with_reducible exact galoisref23_Has.mono _ _ _)
      | (with_reducible exact galoisref23_Place.mono _ _ _)
      | (with_reducible exact galoisref23_With.mono _ _ _ _)
      | (with_reducible exact permgroup_Contains.mono _ _ _ _)
      | (with_reducible exact permgroup_Element.mono _ _ _ _)
      | (with_reducible exact permgroup_Index.mono _ _ _ _)
      | (with_reducible exact LeO.refl _)
      | (with_reducible exact LeO.none _)
      | (with_reducible refine LeO.ite ?_ ?_)
      | (with_reducible refine LeO.bind ?_ (fun _ => ?_))
      | exact ih0 _ _ _ _ _
      | exact ih1 _ _ _ _ _ _ _ _ _ _ _ _
      | exact ih2 _ _ _ _ _ _ _ _
      | exact galoislaw23_large.mono _ _ _
      | exact galoisref22_Same.mono _ _ _
      | exact galoisref23_Check.mono _ _ _
      | exact galoisref23_Elements.mono _ _ _
      | exact galoisref23_Has.mono _ _ _
      | exact galoisref23_Place.mono _ _ _
      | exact galoisref23_With.mono _ _ _ _
      | exact permgroup_Contains.mono _ _ _ _
      | exact permgroup_Element.mono _ _ _ _
      | exact permgroup_Index.mono _ _ _ _
      | exact LeO.none _
      | refine LeO.ite ?_ ?_
      | refine LeO.bind ?_ (fun _ => ?_)
theorem galoislaw23_PermgroupMembers.mono : ∀ a0 a1 a2 a3 k, LeO (galoislaw23_PermgroupMembers.f k a0 a1 a2 a3) (galoislaw23_PermgroupMembers.f (k + 1) a0 a1 a2 a3) := by
  intro a0 a1 a2 a3 k
  obtain ⟨ih0, ih1, ih2⟩ := galoislaw23_PermgroupMembers.mono_l k
  unfold galoislaw23_PermgroupMembers.f
  repeat' first
      | (with_reducible exact ih0 _ _ _ _ _)
      | (with_reducible exact ih1 _ _ _ _ _ _ _ _ _ _ _ _)
      | (with_reducible exact ih2 _ _ _ _ _ _ _ _)
      | (with_reducible exact galoislaw23_large.mono _ _ _)
      | (with_reducible exact galoisref22_Same.mono _ _ _)
      | (with_reducible exact galoisref23_Check.mono _ _ _)
      | (with_reducible exact galoisref23_Elements.mono _ _ _)
      | (with_reducible exact galoisref23_Has.mono _ _ _)
      | (with_reducible exact galoisref23_Place.mono _ _ _)
      | (with_reducible exact galoisref23_With.mono _ _ _ _)
      | (with_reducible exact permgroup_Contains.mono _ _ _ _)
      | (with_reducible exact permgroup_Element.mono _ _ _ _)
      | (with_reducible exact permgroup_Index.mono _ _ _ _)
      | (with_reducible exact LeO.refl _)
      | (with_reducible exact LeO.none _)
      | (with_reducible refine LeO.ite ?_ ?_)
      | (with_reducible refine LeO.bind ?_ (fun _ => ?_))
      | exact ih0 _ _ _ _ _
      | exact ih1 _ _ _ _ _ _ _ _ _ _ _ _
      | exact ih2 _ _ _ _ _ _ _ _
      | exact galoislaw23_large.mono _ _ _
      | exact galoisref22_Same.mono _ _ _
      | exact galoisref23_Check.mono _ _ _
      | exact galoisref23_Elements.mono _ _ _
      | exact galoisref23_Has.mono _ _ _
      | exact galoisref23_Place.mono _ _ _
      | exact galoisref23_With.mono _ _ _ _
      | exact permgroup_Contains.mono _ _ _ _
      | exact permgroup_Element.mono _ _ _ _
      | exact permgroup_Index.mono _ _ _ _
      | exact LeO.none _
      | refine LeO.ite ?_ ?_
      | refine LeO.bind ?_ (fun _ => ?_)
set_option maxHeartbeats 8000000 in
set_option maxRecDepth 100000 in
theorem galoislaw23_PermgroupMembers.calls (k : Nat) (a0_0 : Int) (A0_1 : Option Addr) (c0_1 : Nat) (l0_1 : List (List Int)) (A1 : Option Addr) (c1 : Nat) (l1 : List Int) (a2 : Int) (r : Bool) (w : World) (hr0_1 : Kd.C (Kd.slice 3 (Kd.int .i64)) w A0_1 l0_1.length l0_1) (hc0_1 : l0_1.length ≤ c0_1) (hr1 : Kd.C (Kd.int .i64) w A1 l1.length l1) (hc1 : l1.length ≤ c1) (h : galoislaw23_PermgroupMembers.f k a0_0 l0_1 l1 a2 = some r) :
    Calls Try.prog 4 #[.agg #[.int .i64 a0_0, .slice A0_1 l0_1.length c0_1], .slice A1 l1.length c1, .int .i64 a2] w fun e w' => e = .returned (.bool r) ∧ Below w.heap.size w w' := by
  have hu24 := Try.underlying24
  have HR0_1 := Aside0.mk hr0_1
  have HC0_1 := Aside0.mk hc0_1
  clear hr0_1 hc0_1
  have HR1 := Aside0.mk hr1
  have HC1 := Aside0.mk hc1
  clear hr1 hc1
  have HB := Aside0.mk (Below.refl w.heap.size w)
  have H : ((galoislaw23_awake.f).bind fun t226 => (if t226 = true then ((galoislaw23_large.f k a0_0 l0_1).bind fun t227 => (if t227 = true then (galoislaw23_PermgroupMembers.j0 k l1 a2 true a0_0 l0_1) else (galoislaw23_PermgroupMembers.j0 k l1 a2 (decide ((l1.length : Int) > 40)) a0_0 l0_1))) else (galoislaw23_PermgroupMembers.j0 k l1 a2 true a0_0 l0_1))) = some r := h
  clear h
  have HC4 := Aside0.mk H
  clear H
  go_enter Try.func4, Try.ntmps4
  go_upto_region 1 with (first | ((with_reducible refine gate_dst (N := 3) rfl ?_); (try (refine gate_guard (by rfl) ?_; dsimp only)); refine box_event ?hg (N := 3) ?hd (cs := #[.int .i64 a0_0, .slice A0_1 l0_1.length c0_1]) (t := 24) ?hr ?_; (case hd => rfl); (case hg => rfl); (case hr => first | (go_simp; done) | (go_simp; rfl)); intro gb225 hg w5 hbox hb; have n0_ := Aside0.mk (below_step (by repeat (first | (with_reducible first | exact HB.out | apply below_alloc | apply pw_below_drewN | apply below_drew1) | exact HB.out)) hb); have n1_ := Aside0.mk (hbox); have n2_ := Aside0.mk ((by rw [hg]; exact (below_size (by repeat (first | (with_reducible first | exact HB.out | apply below_alloc | apply pw_below_drewN | apply below_drew1) | exact HB.out))) : w.heap.size ≤ gb225)); have n3_ := Aside0.mk ((by rw [hg]; exact (below_size (by repeat (first | (with_reducible first | exact HB.out | apply below_alloc | apply pw_below_drewN | apply below_drew1) | exact HB.out))) : w.heap.size ≤ gb225)); clear HB; have HB := n0_; have BK225 := n1_; have GW225 := n2_; have GE225 := n3_; clear n0_ n1_ n2_ n3_; clear hb hbox hg))
  (try simp only [Act.put, List.setIfInBounds_toArray, List.set_cons_zero, List.set_cons_succ])
  go_cut [27] (fun v27 wc => ∃ (kq : Nat) (x27_3 : Bool), v27 = .bool x27_3 ∧ Aside0 (galoislaw23_PermgroupMembers.j0 kq l1 a2 x27_3 a0_0 l0_1 = some r) ∧ Aside0 (kq ≤ k) ∧ Aside0 (wc.heap[gb225]? = some (.cells #[.int .i64 a0_0, (.slice A0_1 l0_1.length c0_1)] 24 (0, 0))) ∧ Aside0 (Below w.heap.size w wc))
  case first =>
    have H := HC4.out
    clear HC4
    replace H := Option.bind_eq_some_iff.mp H
    obtain ⟨t226, A60, H⟩ := H
    replace H : (if t226 = true then ((galoislaw23_large.f k a0_0 l0_1).bind fun t227 => (if t227 = true then (galoislaw23_PermgroupMembers.j0 k l1 a2 true a0_0 l0_1) else (galoislaw23_PermgroupMembers.j0 k l1 a2 (decide ((l1.length : Int) > 40)) a0_0 l0_1))) else (galoislaw23_PermgroupMembers.j0 k l1 a2 true a0_0 l0_1)) = some r := H
    have A6 := Aside0.mk A60
    clear A60
    by_cases c7 : t226 = true
    · subst c7
      have H1 : ((galoislaw23_large.f k a0_0 l0_1).bind fun t227 => (if t227 = true then (galoislaw23_PermgroupMembers.j0 k l1 a2 true a0_0 l0_1) else (galoislaw23_PermgroupMembers.j0 k l1 a2 (decide ((l1.length : Int) > 40)) a0_0 l0_1))) = some r := by rw [if_pos rfl] at H; exact H
      clear H
      have H := H1
      clear H1
      replace H := Option.bind_eq_some_iff.mp H
      obtain ⟨t227, A80, H⟩ := H
      replace H : (if t227 = true then (galoislaw23_PermgroupMembers.j0 k l1 a2 true a0_0 l0_1) else (galoislaw23_PermgroupMembers.j0 k l1 a2 (decide ((l1.length : Int) > 40)) a0_0 l0_1)) = some r := H
      have A8 := Aside0.mk A80
      clear A80
      by_cases c9 : t227 = true
      · subst c9
        have H1 : (galoislaw23_PermgroupMembers.j0 k l1 a2 true a0_0 l0_1) = some r := by rw [if_pos rfl] at H; exact H
        clear H
        have H := H1
        clear H1
        have H' := Aside0.mk H
        clear H
        as_aux_lemma =>
          go_wp2_with (first | ((with_reducible refine gate_callee (f := 9) rfl ?_); refine goesL_ (some 17) rfl rfl Try.func9 (by kernel_rfl) rfl #[] rfl (by (try simp only [List.map_toArray, List.map_cons, List.map_nil]); first | done | rfl | (simp only [List.length_drop, List.length_take]; rfl)) ?_; (with_reducible refine (galoislaw23_awake.calls  true _ A6.out).mono ?_); rintro e w10 ⟨rfl, hb⟩; refine ⟨_, rfl, ?_⟩; have n0_ := Aside0.mk (blk_below (g := gb225) (o := .cells #[.int .i64 a0_0, .slice A0_1 l0_1.length c0_1] 24 (0, 0)) (by (with_reducible repeat (first | refine blk_drewN ?_ _ | refine blk_drew ?_ | refine blk_alloc ?_ _)); exact BK225.out) hb); have n1_ := Aside0.mk (below_step (by repeat (first | (with_reducible first | exact HB.out | apply below_alloc | apply pw_below_drewN | apply below_drew1 | refine below_set ?_ GE225.out) | exact HB.out)) hb); clear BK225; clear HB; have BK225 := n0_; have HB := n1_; clear n0_ n1_; (try clear hb); (try clear hb2); (try clear hk); (try clear hi); have hcz11_0 : w10.cell? ⟨gb225, 0, none⟩ = some (.int .i64 a0_0) := (blk_cell BK225.out 0).trans rfl; have hcz11_1 : w10.cell? ⟨gb225, 1, none⟩ = some (.slice A0_1 l0_1.length c0_1) := (blk_cell BK225.out 1).trans rfl; have hfz11_0 := blk_frozen BK225.out 0; have hfz11_1 := blk_frozen BK225.out 1) | (go_at_call 10; (with_reducible refine (galoislaw23_large.calls k a0_0 _ _ l0_1 true _ ?side1 ?side2 A8.out).mono ?_); (case side1 => repeat (first | exact (Kd.C_below HR0_1.out HB.out) | (with_reducible refine Kd.C_alloc ?_ _) | (with_reducible refine Kd.C_drewN ?_ _) | (with_reducible refine Kd.C_drew ?_))); (case side2 => exact HC0_1.out); rintro e w12 ⟨rfl, hb⟩; have n0_ := Aside0.mk (blk_below (g := gb225) (o := .cells #[.int .i64 a0_0, .slice A0_1 l0_1.length c0_1] 24 (0, 0)) (by (with_reducible repeat (first | refine blk_drewN ?_ _ | refine blk_drew ?_ | refine blk_alloc ?_ _)); exact BK225.out) hb); have n1_ := Aside0.mk (below_step (by repeat (first | (with_reducible first | exact HB.out | apply below_alloc | apply pw_below_drewN | apply below_drew1 | refine below_set ?_ GE225.out) | exact HB.out)) hb); clear BK225; clear HB; have BK225 := n0_; have HB := n1_; clear n0_ n1_; (try clear hb); (try clear hb2); (try clear hk); (try clear hi)))
          go_meet
          case rel => exact ⟨_, (true), (by first | rfl | (simp; done) | (simp [*]; done)), H', ⟨by first | omega | exact Nat.le_refl _⟩, ⟨by (with_reducible repeat (first | refine blk_drewN ?_ _ | refine blk_drew ?_ | refine blk_alloc ?_ _)); exact BK225.out⟩, ⟨by repeat (first | (with_reducible first | exact HB.out | apply below_alloc | apply pw_below_drewN | apply below_drew1 | refine below_set ?_ GE225.out) | exact HB.out)⟩⟩
      · replace c9 := Bool.eq_false_iff.mpr c9
        subst c9
        have H1 : (galoislaw23_PermgroupMembers.j0 k l1 a2 (decide ((l1.length : Int) > 40)) a0_0 l0_1) = some r := by rw [if_neg (show ¬ (false = true) by decide)] at H; exact H
        clear H
        have H := H1
        clear H1
        have H' := Aside0.mk H
        clear H
        as_aux_lemma =>
          go_wp2_with (first | ((with_reducible refine gate_callee (f := 9) rfl ?_); refine goesL_ (some 17) rfl rfl Try.func9 (by kernel_rfl) rfl #[] rfl (by (try simp only [List.map_toArray, List.map_cons, List.map_nil]); first | done | rfl | (simp only [List.length_drop, List.length_take]; rfl)) ?_; (with_reducible refine (galoislaw23_awake.calls  true _ A6.out).mono ?_); rintro e w13 ⟨rfl, hb⟩; refine ⟨_, rfl, ?_⟩; have n0_ := Aside0.mk (blk_below (g := gb225) (o := .cells #[.int .i64 a0_0, .slice A0_1 l0_1.length c0_1] 24 (0, 0)) (by (with_reducible repeat (first | refine blk_drewN ?_ _ | refine blk_drew ?_ | refine blk_alloc ?_ _)); exact BK225.out) hb); have n1_ := Aside0.mk (below_step (by repeat (first | (with_reducible first | exact HB.out | apply below_alloc | apply pw_below_drewN | apply below_drew1 | refine below_set ?_ GE225.out) | exact HB.out)) hb); clear BK225; clear HB; have BK225 := n0_; have HB := n1_; clear n0_ n1_; (try clear hb); (try clear hb2); (try clear hk); (try clear hi); have hcz14_0 : w13.cell? ⟨gb225, 0, none⟩ = some (.int .i64 a0_0) := (blk_cell BK225.out 0).trans rfl; have hcz14_1 : w13.cell? ⟨gb225, 1, none⟩ = some (.slice A0_1 l0_1.length c0_1) := (blk_cell BK225.out 1).trans rfl; have hfz14_0 := blk_frozen BK225.out 0; have hfz14_1 := blk_frozen BK225.out 1) | (go_at_call 10; (with_reducible refine (galoislaw23_large.calls k a0_0 _ _ l0_1 false _ ?side1 ?side2 A8.out).mono ?_); (case side1 => repeat (first | exact (Kd.C_below HR0_1.out HB.out) | (with_reducible refine Kd.C_alloc ?_ _) | (with_reducible refine Kd.C_drewN ?_ _) | (with_reducible refine Kd.C_drew ?_))); (case side2 => exact HC0_1.out); rintro e w15 ⟨rfl, hb⟩; have n0_ := Aside0.mk (blk_below (g := gb225) (o := .cells #[.int .i64 a0_0, .slice A0_1 l0_1.length c0_1] 24 (0, 0)) (by (with_reducible repeat (first | refine blk_drewN ?_ _ | refine blk_drew ?_ | refine blk_alloc ?_ _)); exact BK225.out) hb); have n1_ := Aside0.mk (below_step (by repeat (first | (with_reducible first | exact HB.out | apply below_alloc | apply pw_below_drewN | apply below_drew1 | refine below_set ?_ GE225.out) | exact HB.out)) hb); clear BK225; clear HB; have BK225 := n0_; have HB := n1_; clear n0_ n1_; (try clear hb); (try clear hb2); (try clear hk); (try clear hi)))
          go_meet
          case rel => exact ⟨_, (decide ((l1.length : Int) > 40)), (by first | rfl | (simp; done) | (simp [*]; done)), H', ⟨by first | omega | exact Nat.le_refl _⟩, ⟨by (with_reducible repeat (first | refine blk_drewN ?_ _ | refine blk_drew ?_ | refine blk_alloc ?_ _)); exact BK225.out⟩, ⟨by repeat (first | (with_reducible first | exact HB.out | apply below_alloc | apply pw_below_drewN | apply below_drew1 | refine below_set ?_ GE225.out) | exact HB.out)⟩⟩
    · replace c7 := Bool.eq_false_iff.mpr c7
      subst c7
      have H1 : (galoislaw23_PermgroupMembers.j0 k l1 a2 true a0_0 l0_1) = some r := by rw [if_neg (show ¬ (false = true) by decide)] at H; exact H
      clear H
      have H := H1
      clear H1
      have H' := Aside0.mk H
      clear H
      as_aux_lemma =>
        go_wp2_with (first | ((with_reducible refine gate_callee (f := 9) rfl ?_); refine goesL_ (some 17) rfl rfl Try.func9 (by kernel_rfl) rfl #[] rfl (by (try simp only [List.map_toArray, List.map_cons, List.map_nil]); first | done | rfl | (simp only [List.length_drop, List.length_take]; rfl)) ?_; (with_reducible refine (galoislaw23_awake.calls  false _ A6.out).mono ?_); rintro e w16 ⟨rfl, hb⟩; refine ⟨_, rfl, ?_⟩; have n0_ := Aside0.mk (blk_below (g := gb225) (o := .cells #[.int .i64 a0_0, .slice A0_1 l0_1.length c0_1] 24 (0, 0)) (by (with_reducible repeat (first | refine blk_drewN ?_ _ | refine blk_drew ?_ | refine blk_alloc ?_ _)); exact BK225.out) hb); have n1_ := Aside0.mk (below_step (by repeat (first | (with_reducible first | exact HB.out | apply below_alloc | apply pw_below_drewN | apply below_drew1 | refine below_set ?_ GE225.out) | exact HB.out)) hb); clear BK225; clear HB; have BK225 := n0_; have HB := n1_; clear n0_ n1_; (try clear hb); (try clear hb2); (try clear hk); (try clear hi)))
        go_meet
        case rel => exact ⟨_, (true), (by first | rfl | (simp; done) | (simp [*]; done)), H', ⟨by first | omega | exact Nat.le_refl _⟩, ⟨by (with_reducible repeat (first | refine blk_drewN ?_ _ | refine blk_drew ?_ | refine blk_alloc ?_ _)); exact BK225.out⟩, ⟨by repeat (first | (with_reducible first | exact HB.out | apply below_alloc | apply pw_below_drewN | apply below_drew1 | refine below_set ?_ GE225.out) | exact HB.out)⟩⟩
  case rest =>
    clear HC4
    try clear c1
    try clear p2
    try clear c4
    try clear c7
    try clear c9
    try clear hcz11_0
    try clear hcz11_1
    try clear hcz14_0
    try clear hcz14_1
    try clear hfz11_0
    try clear hfz11_1
    try clear hfz14_0
    try clear hfz14_1
    obtain ⟨kq, x27_3, rfl, HA, HJ3, BK225, HB⟩ := hcut
    cases kq with
    | zero => exact absurd HA.out (by simp [galoislaw23_PermgroupMembers.j0])
    | succ kj3 =>
      have H := HA.out
      clear HA
      simp only [galoislaw23_PermgroupMembers.j0] at H
      by_cases c17 : x27_3 = true
      · subst c17
        have H1 : ((galoislaw23_awake.f).bind fun t228 => (some t228)) = some r := by rw [if_pos rfl] at H; exact H
        clear H
        have H := H1
        clear H1
        replace H := Option.bind_eq_some_iff.mp H
        obtain ⟨t228, A180, H⟩ := H
        replace H : (some t228) = some r := H
        have A18 := Aside0.mk A180
        clear A180
        obtain rfl := Option.some.inj H
        as_aux_lemma =>
          go_wp2_with (first | ((with_reducible refine gate_callee (f := 9) rfl ?_); refine goesL_ (some 28) rfl rfl Try.func9 (by kernel_rfl) rfl #[] rfl (by (try simp only [List.map_toArray, List.map_cons, List.map_nil]); first | done | rfl | (simp only [List.length_drop, List.length_take]; rfl)) ?_; (with_reducible refine (galoislaw23_awake.calls  t228 _ A18.out).mono ?_); rintro e w19 ⟨rfl, hb⟩; refine ⟨_, rfl, ?_⟩; have n0_ := Aside0.mk (blk_below (g := gb225) (o := .cells #[.int .i64 a0_0, .slice A0_1 l0_1.length c0_1] 24 (0, 0)) (by (with_reducible repeat (first | refine blk_drewN ?_ _ | refine blk_drew ?_ | refine blk_alloc ?_ _)); exact BK225.out) hb); have n1_ := Aside0.mk (below_step (by repeat (first | (with_reducible first | exact HB.out | apply below_alloc | apply pw_below_drewN | apply below_drew1 | refine below_set ?_ GE225.out) | exact HB.out)) hb); clear BK225; clear HB; have BK225 := n0_; have HB := n1_; clear n0_ n1_; (try clear hb); (try clear hb2); (try clear hk); (try clear hi)))
          go_ret
          exact ⟨by first | rfl | (simp [errW_none, errW_some] <;> rfl) | (simp [*, errW_none, errW_some] <;> rfl), by repeat (first | (with_reducible first | exact HB.out | apply below_alloc | apply pw_below_drewN | apply below_drew1 | refine below_set ?_ GE225.out) | exact HB.out)⟩
      · replace c17 := Bool.eq_false_iff.mpr c17
        subst c17
        have H1 : ((permgroup_Contains.f kj3 a0_0 l0_1 l1).bind fun bt229 => ((permgroup_Index.f kj3 a0_0 l0_1 l1).bind fun bt231 => ((permgroup_Element.f kj3 a0_0 l0_1 a2).bind fun bt233 => ((galoisref23_Check.f kj3 a0_0 l0_1).bind fun t237 => (if t237 = 0 then ((galoisref23_Elements.f kj3 a0_0 l0_1).bind fun bt238 => (if a2 < 0 then (galoislaw23_PermgroupMembers.j1 kj3 l1 a2 bt229.1 bt229.2 bt231.1 bt231.2 bt233.1 bt233.2 bt238.1 true a0_0 l0_1) else (galoislaw23_PermgroupMembers.j1 kj3 l1 a2 bt229.1 bt229.2 bt231.1 bt231.2 bt233.1 bt233.2 bt238.1 (decide (a2 ≥ (bt238.1.length : Int))) a0_0 l0_1))) else (if bt229.1 = true then (some false) else (if bt229.2 = t237 then (if bt231.1 = 0 then (if bt231.2 = t237 then (if (bt233.1.length : Int) = 0 then (some (bt233.2 == t237)) else (some false)) else (some false)) else (some false)) else (some false)))))))) = some r := by rw [if_neg (show ¬ (false = true) by decide)] at H; exact H
        clear H
        have H := H1
        clear H1
        replace H := Option.bind_eq_some_iff.mp H
        obtain ⟨⟨t229, t230⟩, A200, H⟩ := H
        replace H : ((permgroup_Index.f kj3 a0_0 l0_1 l1).bind fun bt231 => ((permgroup_Element.f kj3 a0_0 l0_1 a2).bind fun bt233 => ((galoisref23_Check.f kj3 a0_0 l0_1).bind fun t237 => (if t237 = 0 then ((galoisref23_Elements.f kj3 a0_0 l0_1).bind fun bt238 => (if a2 < 0 then (galoislaw23_PermgroupMembers.j1 kj3 l1 a2 t229 t230 bt231.1 bt231.2 bt233.1 bt233.2 bt238.1 true a0_0 l0_1) else (galoislaw23_PermgroupMembers.j1 kj3 l1 a2 t229 t230 bt231.1 bt231.2 bt233.1 bt233.2 bt238.1 (decide (a2 ≥ (bt238.1.length : Int))) a0_0 l0_1))) else (if t229 = true then (some false) else (if t230 = t237 then (if bt231.1 = 0 then (if bt231.2 = t237 then (if (bt233.1.length : Int) = 0 then (some (bt233.2 == t237)) else (some false)) else (some false)) else (some false)) else (some false))))))) = some r := H
        have A20 := Aside0.mk A200
        clear A200
        replace H := Option.bind_eq_some_iff.mp H
        obtain ⟨⟨t231, t232⟩, A210, H⟩ := H
        replace H : ((permgroup_Element.f kj3 a0_0 l0_1 a2).bind fun bt233 => ((galoisref23_Check.f kj3 a0_0 l0_1).bind fun t237 => (if t237 = 0 then ((galoisref23_Elements.f kj3 a0_0 l0_1).bind fun bt238 => (if a2 < 0 then (galoislaw23_PermgroupMembers.j1 kj3 l1 a2 t229 t230 t231 t232 bt233.1 bt233.2 bt238.1 true a0_0 l0_1) else (galoislaw23_PermgroupMembers.j1 kj3 l1 a2 t229 t230 t231 t232 bt233.1 bt233.2 bt238.1 (decide (a2 ≥ (bt238.1.length : Int))) a0_0 l0_1))) else (if t229 = true then (some false) else (if t230 = t237 then (if t231 = 0 then (if t232 = t237 then (if (bt233.1.length : Int) = 0 then (some (bt233.2 == t237)) else (some false)) else (some false)) else (some false)) else (some false)))))) = some r := H
        have A21 := Aside0.mk A210
        clear A210
        replace H := Option.bind_eq_some_iff.mp H
        obtain ⟨⟨t233, t236⟩, A220, H⟩ := H
        replace H : ((galoisref23_Check.f kj3 a0_0 l0_1).bind fun t237 => (if t237 = 0 then ((galoisref23_Elements.f kj3 a0_0 l0_1).bind fun bt238 => (if a2 < 0 then (galoislaw23_PermgroupMembers.j1 kj3 l1 a2 t229 t230 t231 t232 t233 t236 bt238.1 true a0_0 l0_1) else (galoislaw23_PermgroupMembers.j1 kj3 l1 a2 t229 t230 t231 t232 t233 t236 bt238.1 (decide (a2 ≥ (bt238.1.length : Int))) a0_0 l0_1))) else (if t229 = true then (some false) else (if t230 = t237 then (if t231 = 0 then (if t232 = t237 then (if (t233.length : Int) = 0 then (some (t236 == t237)) else (some false)) else (some false)) else (some false)) else (some false))))) = some r := H
        have A22 := Aside0.mk A220
        clear A220
        replace H := Option.bind_eq_some_iff.mp H
        obtain ⟨t237, A230, H⟩ := H
        replace H : (if t237 = 0 then ((galoisref23_Elements.f kj3 a0_0 l0_1).bind fun bt238 => (if a2 < 0 then (galoislaw23_PermgroupMembers.j1 kj3 l1 a2 t229 t230 t231 t232 t233 t236 bt238.1 true a0_0 l0_1) else (galoislaw23_PermgroupMembers.j1 kj3 l1 a2 t229 t230 t231 t232 t233 t236 bt238.1 (decide (a2 ≥ (bt238.1.length : Int))) a0_0 l0_1))) else (if t229 = true then (some false) else (if t230 = t237 then (if t231 = 0 then (if t232 = t237 then (if (t233.length : Int) = 0 then (some (t236 == t237)) else (some false)) else (some false)) else (some false)) else (some false)))) = some r := H
        have A23 := Aside0.mk A230
        clear A230
        by_cases c24 : t237 = 0
        · rw [if_pos c24] at H
          have c24b0 : (t237 == 0) = true := beq_iff_eq.mpr c24
          have c24b1 : (t237 != 0) = false := bne_eq_false_iff_eq.mpr c24
          clear c24
          replace H := Option.bind_eq_some_iff.mp H
          obtain ⟨⟨t238, t241⟩, A250, H⟩ := H
          replace H : (if a2 < 0 then (galoislaw23_PermgroupMembers.j1 kj3 l1 a2 t229 t230 t231 t232 t233 t236 t238 true a0_0 l0_1) else (galoislaw23_PermgroupMembers.j1 kj3 l1 a2 t229 t230 t231 t232 t233 t236 t238 (decide (a2 ≥ (t238.length : Int))) a0_0 l0_1)) = some r := H
          have A25 := Aside0.mk A250
          clear A250
          have HC26 := Aside0.mk H
          clear H
          have hcz27_0 : wc.cell? ⟨gb225, 0, none⟩ = some (.int .i64 a0_0) := (blk_cell BK225.out 0).trans rfl
          have hcz27_1 : wc.cell? ⟨gb225, 1, none⟩ = some (.slice A0_1 l0_1.length c0_1) := (blk_cell BK225.out 1).trans rfl
          have hfz27_0 := blk_frozen BK225.out 0
          have hfz27_1 := blk_frozen BK225.out 1
          go_upto_region 10 with (first | ((with_reducible refine gate_callee (f := 24) rfl ?_); refine goesL_ (some 32) rfl rfl Try.func24 (by kernel_rfl) rfl #[.agg #[.int .i64 a0_0, .slice A0_1 l0_1.length c0_1], .slice A1 l1.length c1] rfl (by (try simp only [List.map_toArray, List.map_cons, List.map_nil]); first | done | rfl | (simp only [List.length_drop, List.length_take]; rfl)) ?_; (with_reducible refine (permgroup_Contains.calls kj3 a0_0 _ _ l0_1 _ _ l1 t229 t230 _ ?side1 ?side2 ?side3 ?side4 A20.out).mono ?_); (case side1 => repeat (first | exact (Kd.C_below HR0_1.out HB.out) | (with_reducible refine Kd.C_alloc ?_ _) | (with_reducible refine Kd.C_drewN ?_ _) | (with_reducible refine Kd.C_drew ?_))); (case side2 => exact HC0_1.out); (case side3 => repeat (first | exact (Kd.C_below HR1.out HB.out) | (with_reducible refine Kd.C_alloc ?_ _) | (with_reducible refine Kd.C_drewN ?_ _) | (with_reducible refine Kd.C_drew ?_))); (case side4 => exact HC1.out); rintro e w28 ⟨rfl, hb⟩; refine ⟨_, rfl, ?_⟩; have n0_ := Aside0.mk (blk_below (g := gb225) (o := .cells #[.int .i64 a0_0, .slice A0_1 l0_1.length c0_1] 24 (0, 0)) (by (with_reducible repeat (first | refine blk_drewN ?_ _ | refine blk_drew ?_ | refine blk_alloc ?_ _)); exact BK225.out) hb); have n1_ := Aside0.mk (below_step (by repeat (first | (with_reducible first | exact HB.out | apply below_alloc | apply pw_below_drewN | apply below_drew1 | refine below_set ?_ GE225.out) | exact HB.out)) hb); clear BK225; clear HB; have BK225 := n0_; have HB := n1_; clear n0_ n1_; (try clear hb); (try clear hb2); (try clear hk); (try clear hi); have hcz29_0 : w28.cell? ⟨gb225, 0, none⟩ = some (.int .i64 a0_0) := (blk_cell BK225.out 0).trans rfl; have hcz29_1 : w28.cell? ⟨gb225, 1, none⟩ = some (.slice A0_1 l0_1.length c0_1) := (blk_cell BK225.out 1).trans rfl; have hfz29_0 := blk_frozen BK225.out 0; have hfz29_1 := blk_frozen BK225.out 1) | ((with_reducible refine gate_callee (f := 25) rfl ?_); refine goesL_ (some 38) rfl rfl Try.func25 (by kernel_rfl) rfl #[.agg #[.int .i64 a0_0, .slice A0_1 l0_1.length c0_1], .slice A1 l1.length c1] rfl (by (try simp only [List.map_toArray, List.map_cons, List.map_nil]); first | done | rfl | (simp only [List.length_drop, List.length_take]; rfl)) ?_; (with_reducible refine (permgroup_Index.calls kj3 a0_0 _ _ l0_1 _ _ l1 t231 t232 _ ?side1 ?side2 ?side3 ?side4 A21.out).mono ?_); (case side1 => repeat (first | exact (Kd.C_below HR0_1.out HB.out) | (with_reducible refine Kd.C_alloc ?_ _) | (with_reducible refine Kd.C_drewN ?_ _) | (with_reducible refine Kd.C_drew ?_))); (case side2 => exact HC0_1.out); (case side3 => repeat (first | exact (Kd.C_below HR1.out HB.out) | (with_reducible refine Kd.C_alloc ?_ _) | (with_reducible refine Kd.C_drewN ?_ _) | (with_reducible refine Kd.C_drew ?_))); (case side4 => exact HC1.out); rintro e w30 ⟨rfl, hb⟩; refine ⟨_, rfl, ?_⟩; have n0_ := Aside0.mk (blk_below (g := gb225) (o := .cells #[.int .i64 a0_0, .slice A0_1 l0_1.length c0_1] 24 (0, 0)) (by (with_reducible repeat (first | refine blk_drewN ?_ _ | refine blk_drew ?_ | refine blk_alloc ?_ _)); exact BK225.out) hb); have n1_ := Aside0.mk (below_step (by repeat (first | (with_reducible first | exact HB.out | apply below_alloc | apply pw_below_drewN | apply below_drew1 | refine below_set ?_ GE225.out) | exact HB.out)) hb); clear BK225; clear HB; have BK225 := n0_; have HB := n1_; clear n0_ n1_; (try clear hb); (try clear hb2); (try clear hk); (try clear hi); have hcz31_0 : w30.cell? ⟨gb225, 0, none⟩ = some (.int .i64 a0_0) := (blk_cell BK225.out 0).trans rfl; have hcz31_1 : w30.cell? ⟨gb225, 1, none⟩ = some (.slice A0_1 l0_1.length c0_1) := (blk_cell BK225.out 1).trans rfl; have hfz31_0 := blk_frozen BK225.out 0; have hfz31_1 := blk_frozen BK225.out 1) | ((with_reducible refine gate_callee (f := 26) rfl ?_); refine goesL_ (some 44) rfl rfl Try.func26 (by kernel_rfl) rfl #[.agg #[.int .i64 a0_0, .slice A0_1 l0_1.length c0_1], .int .i64 a2] rfl (by (try simp only [List.map_toArray, List.map_cons, List.map_nil]); first | done | rfl | (simp only [List.length_drop, List.length_take]; rfl)) ?_; (with_reducible refine (permgroup_Element.calls kj3 a0_0 _ _ l0_1 a2 t233 t236 _ ?side1 ?side2 A22.out).mono ?_); (case side1 => repeat (first | exact (Kd.C_below HR0_1.out HB.out) | (with_reducible refine Kd.C_alloc ?_ _) | (with_reducible refine Kd.C_drewN ?_ _) | (with_reducible refine Kd.C_drew ?_))); (case side2 => exact HC0_1.out); rintro e w32 ⟨v234, rfl, ho0, hb⟩; refine ⟨_, rfl, ?_⟩; have n0_ := Aside0.mk (Kd.R_lower ho0 (below_size (by repeat (first | (with_reducible first | exact HB.out | apply below_alloc | apply pw_below_drewN | apply below_drew1 | refine below_set ?_ GE225.out) | exact HB.out)))); have n1_ := Aside0.mk (blk_below (g := gb225) (o := .cells #[.int .i64 a0_0, .slice A0_1 l0_1.length c0_1] 24 (0, 0)) (by (with_reducible repeat (first | refine blk_drewN ?_ _ | refine blk_drew ?_ | refine blk_alloc ?_ _)); exact BK225.out) hb); have n2_ := Aside0.mk (below_step (by repeat (first | (with_reducible first | exact HB.out | apply below_alloc | apply pw_below_drewN | apply below_drew1 | refine below_set ?_ GE225.out) | exact HB.out)) hb); clear BK225; clear HB; have HO235 := n0_; have BK225 := n1_; have HB := n2_; clear n0_ n1_ n2_; (try clear hb); (try clear hb2); (try clear hk); (try clear hi); (try clear ho0); have hcz33_0 : w32.cell? ⟨gb225, 0, none⟩ = some (.int .i64 a0_0) := (blk_cell BK225.out 0).trans rfl; have hcz33_1 : w32.cell? ⟨gb225, 1, none⟩ = some (.slice A0_1 l0_1.length c0_1) := (blk_cell BK225.out 1).trans rfl; have hfz33_0 := blk_frozen BK225.out 0; have hfz33_1 := blk_frozen BK225.out 1) | ((with_reducible refine gate_callee (f := 11) rfl ?_); refine goesL_ (some 48) rfl rfl Try.func11 (by kernel_rfl) rfl #[.agg #[.int .i64 a0_0, .slice A0_1 l0_1.length c0_1]] rfl (by (try simp only [List.map_toArray, List.map_cons, List.map_nil]); first | done | rfl | (simp only [List.length_drop, List.length_take]; rfl)) ?_; (with_reducible refine (galoisref23_Check.calls kj3 a0_0 _ _ l0_1 t237 _ ?side1 ?side2 A23.out).mono ?_); (case side1 => repeat (first | exact (Kd.C_below HR0_1.out HB.out) | (with_reducible refine Kd.C_alloc ?_ _) | (with_reducible refine Kd.C_drewN ?_ _) | (with_reducible refine Kd.C_drew ?_))); (case side2 => exact HC0_1.out); rintro e w34 ⟨rfl, hb⟩; refine ⟨_, rfl, ?_⟩; have n0_ := Aside0.mk (Kd.R_below (by (with_reducible repeat (first | apply Kd.R_alloc | apply Kd.R_drewN | apply Kd.R_drew)); exact HO235.out) hb); have n1_ := Aside0.mk (blk_below (g := gb225) (o := .cells #[.int .i64 a0_0, .slice A0_1 l0_1.length c0_1] 24 (0, 0)) (by (with_reducible repeat (first | refine blk_drewN ?_ _ | refine blk_drew ?_ | refine blk_alloc ?_ _)); exact BK225.out) hb); have n2_ := Aside0.mk (below_step (by repeat (first | (with_reducible first | exact HB.out | apply below_alloc | apply pw_below_drewN | apply below_drew1 | refine below_set ?_ GE225.out) | exact HB.out)) hb); clear HO235; clear BK225; clear HB; have HO235 := n0_; have BK225 := n1_; have HB := n2_; clear n0_ n1_ n2_; (try clear hb); (try clear hb2); (try clear hk); (try clear hi); have hcz35_0 : w34.cell? ⟨gb225, 0, none⟩ = some (.int .i64 a0_0) := (blk_cell BK225.out 0).trans rfl; have hcz35_1 : w34.cell? ⟨gb225, 1, none⟩ = some (.slice A0_1 l0_1.length c0_1) := (blk_cell BK225.out 1).trans rfl; have hfz35_0 := blk_frozen BK225.out 0; have hfz35_1 := blk_frozen BK225.out 1) | ((with_reducible refine gate_callee (f := 18) rfl ?_); refine goesL_ (some 79) rfl rfl Try.func18 (by kernel_rfl) rfl #[.agg #[.int .i64 a0_0, .slice A0_1 l0_1.length c0_1]] rfl (by (try simp only [List.map_toArray, List.map_cons, List.map_nil]); first | done | rfl | (simp only [List.length_drop, List.length_take]; rfl)) ?_; (with_reducible refine (galoisref23_Elements.calls kj3 a0_0 _ _ l0_1 t238 t241 _ ?side1 ?side2 A25.out).mono ?_); (case side1 => repeat (first | exact (Kd.C_below HR0_1.out HB.out) | (with_reducible refine Kd.C_alloc ?_ _) | (with_reducible refine Kd.C_drewN ?_ _) | (with_reducible refine Kd.C_drew ?_))); (case side2 => exact HC0_1.out); rintro e w36 ⟨v239, rfl, ho0, hb⟩; refine ⟨_, rfl, ?_⟩; have n0_ := Aside0.mk (Kd.R_below (by (with_reducible repeat (first | apply Kd.R_alloc | apply Kd.R_drewN | apply Kd.R_drew)); exact HO235.out) hb); have n1_ := Aside0.mk (Kd.S_lower (Kd.S_new' ho0 (Kd.R_lt (by (with_reducible repeat (first | apply Kd.R_alloc | apply Kd.R_drewN | apply Kd.R_drew)); exact HO235.out))) (below_size (by repeat (first | (with_reducible first | exact HB.out | apply below_alloc | apply pw_below_drewN | apply below_drew1 | refine below_set ?_ GE225.out) | exact HB.out)))); have n2_ := Aside0.mk (blk_below (g := gb225) (o := .cells #[.int .i64 a0_0, .slice A0_1 l0_1.length c0_1] 24 (0, 0)) (by (with_reducible repeat (first | refine blk_drewN ?_ _ | refine blk_drew ?_ | refine blk_alloc ?_ _)); exact BK225.out) hb); have n3_ := Aside0.mk (below_step (by repeat (first | (with_reducible first | exact HB.out | apply below_alloc | apply pw_below_drewN | apply below_drew1 | refine below_set ?_ GE225.out) | exact HB.out)) hb); clear HO235; clear BK225; clear HB; have HO235 := n0_; have HO240 := n1_; have BK225 := n2_; have HB := n3_; clear n0_ n1_ n2_ n3_; (try clear hb); (try clear hb2); (try clear hk); (try clear hi); (try clear ho0)))
          (try simp only [Act.put, List.setIfInBounds_toArray, List.set_cons_zero, List.set_cons_succ])
          go_cut [89] (fun v89 wc => ∃ (kq : Nat) (x89_25 : Bool), v89 = .bool x89_25 ∧ Aside0 (galoislaw23_PermgroupMembers.j1 kq l1 a2 t229 t230 t231 t232 t233 t236 t238 x89_25 a0_0 l0_1 = some r) ∧ Aside0 (kq ≤ kj3) ∧ Aside0 (Kd.R (Kd.int .i64) 3 wc w.heap.size (fun _ => True) v234 t233) ∧ Aside0 (Kd.S (Kd.slice 3 (Kd.int .i64)) 47 wc w.heap.size (fun k_ => some k_ ≠ (v234 : Value).ownBlock) v239 t238) ∧ Aside0 (wc.heap[gb225]? = some (.cells #[.int .i64 a0_0, (.slice A0_1 l0_1.length c0_1)] 24 (0, 0))) ∧ Aside0 (Below w.heap.size w wc))
          case first =>
            have H := HC26.out
            clear HC26
            by_cases c37 : a2 < 0
            · rw [if_pos c37] at H
              have c37b0 : decide (a2 < 0) = true := decide_eq_true c37
              clear c37
              (first | rw [c37b0] | (simp only [i64_w, i32_w]; rw [c37b0]) | skip)
              have H' := Aside0.mk H
              clear H
              as_aux_lemma =>
                go_wp2
                go_meet
                case rel => exact ⟨_, (true), (by first | rfl | (simp; done) | (simp [*]; done)), H', ⟨by have := HJ3.out; first | omega | exact Nat.le_refl _⟩, ⟨by (with_reducible repeat (first | apply Kd.R_alloc | apply Kd.R_drewN | apply Kd.R_drew)); exact HO235.out⟩, ⟨by (with_reducible repeat (first | apply Kd.S_alloc | apply Kd.S_drewN | apply Kd.S_drew)); exact Kd.S_mono HO240.out (fun _ hk => hk.2)⟩, ⟨by (with_reducible repeat (first | refine blk_drewN ?_ _ | refine blk_drew ?_ | refine blk_alloc ?_ _)); exact BK225.out⟩, ⟨by repeat (first | (with_reducible first | exact HB.out | apply below_alloc | apply pw_below_drewN | apply below_drew1 | refine below_set ?_ GE225.out) | exact HB.out)⟩⟩
            · rw [if_neg c37] at H
              have c37b0 : decide (a2 < 0) = false := decide_eq_false c37
              clear c37
              (first | rw [c37b0] | (simp only [i64_w, i32_w]; rw [c37b0]) | skip)
              have H' := Aside0.mk H
              clear H
              obtain ⟨Ao38, co38, eo38⟩ := Kd.S_slice HO240.out
              subst eo38
              as_aux_lemma =>
                go_wp2
                go_meet
                case rel => exact ⟨_, (decide (a2 ≥ (t238.length : Int))), (by first | rfl | (simp; done) | (simp [*]; done)), H', ⟨by have := HJ3.out; first | omega | exact Nat.le_refl _⟩, ⟨by (with_reducible repeat (first | apply Kd.R_alloc | apply Kd.R_drewN | apply Kd.R_drew)); exact HO235.out⟩, ⟨by (with_reducible repeat (first | apply Kd.S_alloc | apply Kd.S_drewN | apply Kd.S_drew)); exact Kd.S_mono HO240.out (fun _ hk => hk.2)⟩, ⟨by (with_reducible repeat (first | refine blk_drewN ?_ _ | refine blk_drew ?_ | refine blk_alloc ?_ _)); exact BK225.out⟩, ⟨by repeat (first | (with_reducible first | exact HB.out | apply below_alloc | apply pw_below_drewN | apply below_drew1 | refine below_set ?_ GE225.out) | exact HB.out)⟩⟩
          case rest =>
            clear HC26
            try clear c1
            try clear c2
            try clear p2
            try clear c3
            try clear c4
            try clear c7
            try clear c9
            try clear c11
            try clear c17
            try clear c18
            try clear c24
            try clear c24b0
            try clear c24b1
            try clear c25
            try clear c26
            try clear c37
            try clear c37b0
            try clear hcz11_0
            try clear hcz11_1
            try clear hcz14_0
            try clear hcz14_1
            try clear hcz27_0
            try clear hcz27_1
            try clear hcz29_0
            try clear hcz29_1
            try clear hcz31_0
            try clear hcz31_1
            try clear hcz33_0
            try clear hcz33_1
            try clear hcz35_0
            try clear hcz35_1
            try clear hfz11_0
            try clear hfz11_1
            try clear hfz14_0
            try clear hfz14_1
            try clear hfz27_0
            try clear hfz27_1
            try clear hfz29_0
            try clear hfz29_1
            try clear hfz31_0
            try clear hfz31_1
            try clear hfz33_0
            try clear hfz33_1
            try clear hfz35_0
            try clear hfz35_1
            try clear p2
            obtain ⟨kq, x89_25, rfl, HA, HJ25, HO_11, HO_14, BK225, HB⟩ := hcut
            cases kq with
            | zero => exact absurd HA.out (by simp [galoislaw23_PermgroupMembers.j1])
            | succ kj25 =>
              have H := HA.out
              clear HA
              simp only [galoislaw23_PermgroupMembers.j1] at H
              have HC39 := Aside0.mk H
              clear H
              go_upto_if 89 with (fail)
              go_cut [] (fun wc => ∃ (kq : Nat), Aside0 (galoislaw23_PermgroupMembers.j2 kq l1 t229 t230 t231 t232 t238 a0_0 l0_1 = some r) ∧ Aside0 (kq ≤ kj25) ∧ Aside0 (Kd.S (Kd.slice 3 (Kd.int .i64)) 47 wc w.heap.size (fun _ => True) v239 t238) ∧ Aside0 (wc.heap[gb225]? = some (.cells #[.int .i64 a0_0, (.slice A0_1 l0_1.length c0_1)] 24 (0, 0))) ∧ Aside0 (Below w.heap.size w wc))
              case first =>
                have H := HC39.out
                clear HC39
                by_cases c40 : x89_25 = true
                · subst c40
                  have H1 : (if (t233.length : Int) > 0 then (some false) else (if t236 = 3 then (galoislaw23_PermgroupMembers.j2 kj25 l1 t229 t230 t231 t232 t238 a0_0 l0_1) else (some false))) = some r := by rw [if_pos rfl] at H; exact H
                  clear H
                  have H := H1
                  clear H1
                  by_cases c41 : (t233.length : Int) > 0
                  · rw [if_pos c41] at H
                    have c41b0 : decide (0 < (t233.length : Int)) = true := decide_eq_true c41
                    have c41b1 : decide (0 < t233.length) = true := decide_eq_true (by omega)
                    clear c41
                    (first | rw [c41b0] | (simp only [i64_w, i32_w]; rw [c41b0]) | skip)
                    obtain rfl := Option.some.inj H
                    obtain ⟨Ao42, co42, eo42⟩ := Kd.R_slice HO_11.out
                    subst eo42
                    as_aux_lemma =>
                      go_wp2
                      go_ret
                      exact ⟨by first | rfl | (simp [errW_none, errW_some] <;> rfl) | (simp [*, errW_none, errW_some] <;> rfl), by repeat (first | (with_reducible first | exact HB.out | apply below_alloc | apply pw_below_drewN | apply below_drew1 | refine below_set ?_ GE225.out) | exact HB.out)⟩
                  · rw [if_neg c41] at H
                    have c41b0 : decide (0 < (t233.length : Int)) = false := decide_eq_false c41
                    have c41b1 : decide (0 < t233.length) = false := decide_eq_false (by omega)
                    clear c41
                    (first | rw [c41b0] | (simp only [i64_w, i32_w]; rw [c41b0]) | skip)
                    by_cases c43 : t236 = 3
                    · rw [if_pos c43] at H
                      have c43b0 : (t236 == 3) = true := beq_iff_eq.mpr c43
                      have c43b1 : (t236 != 3) = false := bne_eq_false_iff_eq.mpr c43
                      clear c43
                      have H' := Aside0.mk H
                      clear H
                      obtain ⟨Ao44, co44, eo44⟩ := Kd.R_slice HO_11.out
                      subst eo44
                      as_aux_lemma =>
                        go_wp2
                        go_meet
                        case rel => exact ⟨_, H', ⟨by have := HJ3.out; have := HJ25.out; first | omega | exact Nat.le_refl _⟩, ⟨by (with_reducible repeat (first | apply Kd.S_alloc | apply Kd.S_drewN | apply Kd.S_drew)); exact Kd.S_mono HO_14.out (fun _ hk => trivial)⟩, ⟨by (with_reducible repeat (first | refine blk_drewN ?_ _ | refine blk_drew ?_ | refine blk_alloc ?_ _)); exact BK225.out⟩, ⟨by repeat (first | (with_reducible first | exact HB.out | apply below_alloc | apply pw_below_drewN | apply below_drew1 | refine below_set ?_ GE225.out) | exact HB.out)⟩⟩
                    · rw [if_neg c43] at H
                      have c43b0 : (t236 == 3) = false := beq_eq_false_iff_ne.mpr c43
                      have c43b1 : (t236 != 3) = true := bne_iff_ne.mpr c43
                      obtain rfl := Option.some.inj H
                      obtain ⟨Ao45, co45, eo45⟩ := Kd.R_slice HO_11.out
                      subst eo45
                      as_aux_lemma =>
                        go_wp2
                        go_ret
                        exact ⟨by first | rfl | (simp [errW_none, errW_some] <;> rfl) | (simp [*, errW_none, errW_some] <;> rfl), by repeat (first | (with_reducible first | exact HB.out | apply below_alloc | apply pw_below_drewN | apply below_drew1 | refine below_set ?_ GE225.out) | exact HB.out)⟩
                · replace c40 := Bool.eq_false_iff.mpr c40
                  subst c40
                  have H1 : (if t236 = 0 then (if 0 ≤ a2 then (if a2 < (t238.length : Int) then ((galoisref22_Same.f kj25 t233 (rd_L1 t238 a2)).bind fun t243 => (if t243 = true then (galoislaw23_PermgroupMembers.j2 kj25 l1 t229 t230 t231 t232 t238 a0_0 l0_1) else (some false))) else (none)) else (none)) else (some false)) = some r := by rw [if_neg (show ¬ (false = true) by decide)] at H; exact H
                  clear H
                  have H := H1
                  clear H1
                  by_cases c46 : t236 = 0
                  · rw [if_pos c46] at H
                    have c46b0 : (t236 == 0) = true := beq_iff_eq.mpr c46
                    have c46b1 : (t236 != 0) = false := bne_eq_false_iff_eq.mpr c46
                    clear c46
                    by_cases c47 : 0 ≤ a2
                    · rw [if_pos c47] at H
                      have c47b0 : decide (0 ≤ a2) = true := decide_eq_true c47
                      clear c47
                      by_cases c48 : a2 < (t238.length : Int)
                      · rw [if_pos c48] at H
                        have c48b0 : decide (a2 < (t238.length : Int)) = true := decide_eq_true c48
                        clear c48
                        replace H := Option.bind_eq_some_iff.mp H
                        obtain ⟨t243, A490, H⟩ := H
                        replace H : (if t243 = true then (galoislaw23_PermgroupMembers.j2 kj25 l1 t229 t230 t231 t232 t238 a0_0 l0_1) else (some false)) = some r := H
                        have A49 := Aside0.mk A490
                        clear A490
                        by_cases c50 : t243 = true
                        · subst c50
                          have H1 : (galoislaw23_PermgroupMembers.j2 kj25 l1 t229 t230 t231 t232 t238 a0_0 l0_1) = some r := by rw [if_pos rfl] at H; exact H
                          clear H
                          have H := H1
                          clear H1
                          have H' := Aside0.mk H
                          clear H
                          obtain ⟨Ao51, co51, eo51⟩ := Kd.S_slice HO_14.out
                          subst eo51
                          have p242 : 0 ≤ (a2 : Int) := of_decide_eq_true (by first | (with_reducible assumption) | assumption)
                          have q242 : a2 < (t238.length : Int) := of_decide_eq_true (by first | (with_reducible assumption) | assumption)
                          obtain ⟨ad242, A242_0, c242_0, e242, hx242_0, hl242_0, hi242_0⟩ := at_L1 (Kd.S_reads' HO_14.out).2.2 a2 p242 q242
                          cases e242
                          obtain ⟨ce242, hce242, hMe242, hcc242⟩ := Kd.S_get HO_14.out [] a2 p242 (by first | exact q242 | exact of_decide_eq_true (by first | (with_reducible assumption) | assumption) | (have e_ := (Kd.S_reads' HO_14.out).1; omega))
                          obtain ⟨ve242_0, rfl, ge242_0⟩ := hMe242
                          have hv242_0 := hcc242 0 _ rfl
                          rw [Nat.add_zero, show ((Kd.slice 3 (Kd.int .i64))).sz = 1 from rfl, Nat.mul_one] at hv242_0
                          replace hv242_0 := Option.some.inj (hv242_0.symm.trans hx242_0)
                          rw [hv242_0] at ge242_0
                          have HL242_0 := Aside0.mk (show Kd.R (Kd.int .i64) 3 _ _ _ _ (rd_L1 t238 a2) from ge242_0)
                          clear hv242_0 ge242_0
                          clear hcc242 hce242
                          have HR242_0 := Aside0.mk hi242_0
                          have HC242_0 := Aside0.mk hl242_0
                          clear hi242_0 hl242_0
                          replace p242 := eq_true p242
                          replace q242 := eq_true q242
                          obtain ⟨Ao52, co52, eo52⟩ := Kd.R_slice HO_11.out
                          subst eo52
                          as_aux_lemma =>
                            go_wp2_with (first | (go_at_call 27; (with_reducible refine (galoisref22_Same.calls kj25 _ _ t233 _ _ (rd_L1 t238 a2) true _ ?side1 ?side2 ?side3 ?side4 A49.out).mono ?_); (case side1 => repeat (first | exact (Kd.R_reads' HO_11.out).2.2 | (with_reducible refine Kd.C_alloc ?_ _) | (with_reducible refine Kd.C_drewN ?_ _) | (with_reducible refine Kd.C_drew ?_))); (case side2 => exact (Kd.R_reads' HO_11.out).2.1); (case side3 => repeat (first | exact (by repeat (first | (with_reducible exact HR242_0.out) | (with_reducible refine Kd.C_alloc ?_ _) | (with_reducible refine Kd.C_drewN ?_ _) | (with_reducible refine Kd.C_drew ?_) | exact HR242_0.out)) | (with_reducible refine Kd.C_alloc ?_ _) | (with_reducible refine Kd.C_drewN ?_ _) | (with_reducible refine Kd.C_drew ?_))); (case side4 => exact HC242_0.out); rintro e w' ⟨rfl, ⟨nd, rfl⟩⟩))
                            go_meet
                            case rel => exact ⟨_, H', ⟨by have := HJ3.out; have := HJ25.out; first | omega | exact Nat.le_refl _⟩, ⟨by (with_reducible repeat (first | apply Kd.S_alloc | apply Kd.S_drewN | apply Kd.S_drew)); exact Kd.S_mono HO_14.out (fun _ hk => trivial)⟩, ⟨by (with_reducible repeat (first | refine blk_drewN ?_ _ | refine blk_drew ?_ | refine blk_alloc ?_ _)); exact BK225.out⟩, ⟨by repeat (first | (with_reducible first | exact HB.out | apply below_alloc | apply pw_below_drewN | apply below_drew1 | refine below_set ?_ GE225.out) | exact HB.out)⟩⟩
                        · replace c50 := Bool.eq_false_iff.mpr c50
                          subst c50
                          have H1 : (some false) = some r := by rw [if_neg (show ¬ (false = true) by decide)] at H; exact H
                          clear H
                          have H := H1
                          clear H1
                          obtain rfl := Option.some.inj H
                          obtain ⟨Ao53, co53, eo53⟩ := Kd.S_slice HO_14.out
                          subst eo53
                          have p242 : 0 ≤ (a2 : Int) := of_decide_eq_true (by first | (with_reducible assumption) | assumption)
                          have q242 : a2 < (t238.length : Int) := of_decide_eq_true (by first | (with_reducible assumption) | assumption)
                          obtain ⟨ad242, A242_0, c242_0, e242, hx242_0, hl242_0, hi242_0⟩ := at_L1 (Kd.S_reads' HO_14.out).2.2 a2 p242 q242
                          cases e242
                          obtain ⟨ce242, hce242, hMe242, hcc242⟩ := Kd.S_get HO_14.out [] a2 p242 (by first | exact q242 | exact of_decide_eq_true (by first | (with_reducible assumption) | assumption) | (have e_ := (Kd.S_reads' HO_14.out).1; omega))
                          obtain ⟨ve242_0, rfl, ge242_0⟩ := hMe242
                          have hv242_0 := hcc242 0 _ rfl
                          rw [Nat.add_zero, show ((Kd.slice 3 (Kd.int .i64))).sz = 1 from rfl, Nat.mul_one] at hv242_0
                          replace hv242_0 := Option.some.inj (hv242_0.symm.trans hx242_0)
                          rw [hv242_0] at ge242_0
                          have HL242_0 := Aside0.mk (show Kd.R (Kd.int .i64) 3 _ _ _ _ (rd_L1 t238 a2) from ge242_0)
                          clear hv242_0 ge242_0
                          clear hcc242 hce242
                          have HR242_0 := Aside0.mk hi242_0
                          have HC242_0 := Aside0.mk hl242_0
                          clear hi242_0 hl242_0
                          replace p242 := eq_true p242
                          replace q242 := eq_true q242
                          obtain ⟨Ao54, co54, eo54⟩ := Kd.R_slice HO_11.out
                          subst eo54
                          as_aux_lemma =>
                            go_wp2_with (first | (go_at_call 27; (with_reducible refine (galoisref22_Same.calls kj25 _ _ t233 _ _ (rd_L1 t238 a2) false _ ?side1 ?side2 ?side3 ?side4 A49.out).mono ?_); (case side1 => repeat (first | exact (Kd.R_reads' HO_11.out).2.2 | (with_reducible refine Kd.C_alloc ?_ _) | (with_reducible refine Kd.C_drewN ?_ _) | (with_reducible refine Kd.C_drew ?_))); (case side2 => exact (Kd.R_reads' HO_11.out).2.1); (case side3 => repeat (first | exact (by repeat (first | (with_reducible exact HR242_0.out) | (with_reducible refine Kd.C_alloc ?_ _) | (with_reducible refine Kd.C_drewN ?_ _) | (with_reducible refine Kd.C_drew ?_) | exact HR242_0.out)) | (with_reducible refine Kd.C_alloc ?_ _) | (with_reducible refine Kd.C_drewN ?_ _) | (with_reducible refine Kd.C_drew ?_))); (case side4 => exact HC242_0.out); rintro e w' ⟨rfl, ⟨nd, rfl⟩⟩))
                            go_ret
                            exact ⟨by first | rfl | (simp [errW_none, errW_some] <;> rfl) | (simp [*, errW_none, errW_some] <;> rfl), by repeat (first | (with_reducible first | exact HB.out | apply below_alloc | apply pw_below_drewN | apply below_drew1 | refine below_set ?_ GE225.out) | exact HB.out)⟩
                      · rw [if_neg c48] at H
                        exact absurd H (by simp)
                    · rw [if_neg c47] at H
                      exact absurd H (by simp)
                  · rw [if_neg c46] at H
                    have c46b0 : (t236 == 0) = false := beq_eq_false_iff_ne.mpr c46
                    have c46b1 : (t236 != 0) = true := bne_iff_ne.mpr c46
                    obtain rfl := Option.some.inj H
                    as_aux_lemma =>
                      go_wp2
                      go_ret
                      exact ⟨by first | rfl | (simp [errW_none, errW_some] <;> rfl) | (simp [*, errW_none, errW_some] <;> rfl), by repeat (first | (with_reducible first | exact HB.out | apply below_alloc | apply pw_below_drewN | apply below_drew1 | refine below_set ?_ GE225.out) | exact HB.out)⟩
              case rest =>
                clear HC39
                try clear c1
                try clear c2
                try clear p2
                try clear q2
                try clear hx2
                try clear c3
                try clear c4
                try clear c5
                try clear c7
                try clear c9
                try clear c11
                try clear c17
                try clear c18
                try clear c24
                try clear c24b0
                try clear c24b1
                try clear p24
                try clear q24
                try clear hx24
                try clear c25
                try clear c26
                try clear c37
                try clear c37b0
                try clear c40
                try clear c41
                try clear c41b0
                try clear c41b1
                try clear c43
                try clear c43b0
                try clear c43b1
                try clear c46
                try clear c46b0
                try clear c46b1
                try clear c47
                try clear c47b0
                try clear c48
                try clear c48b0
                try clear c50
                try clear hcz11_0
                try clear hcz11_1
                try clear hcz14_0
                try clear hcz14_1
                try clear hcz27_0
                try clear hcz27_1
                try clear hcz29_0
                try clear hcz29_1
                try clear hcz31_0
                try clear hcz31_1
                try clear hcz33_0
                try clear hcz33_1
                try clear hcz35_0
                try clear hcz35_1
                try clear hfz11_0
                try clear hfz11_1
                try clear hfz14_0
                try clear hfz14_1
                try clear hfz27_0
                try clear hfz27_1
                try clear hfz29_0
                try clear hfz29_1
                try clear hfz31_0
                try clear hfz31_1
                try clear hfz33_0
                try clear hfz33_1
                try clear hfz35_0
                try clear hfz35_1
                try clear hx242_0
                try clear p2
                try clear p242
                try clear q242
                obtain ⟨kq, HA, HJ38, HO_14, BK225, HB⟩ := hcut
                cases kq with
                | zero => exact absurd HA.out (by simp [galoislaw23_PermgroupMembers.j2])
                | succ kj38 =>
                  have H := HA.out
                  clear HA
                  simp only [galoislaw23_PermgroupMembers.j2] at H
                  replace H := Option.bind_eq_some_iff.mp H
                  obtain ⟨t244, A550, H⟩ := H
                  replace H : (if t244 = 0 then ((galoisref23_Has.f kj38 t238 l1).bind fun t245 => (if t245 = true then (if t229 = true then (if t230 = 0 then ((galoisref23_Place.f kj38 t238 l1).bind fun t246 => (if t231 = t246 then (some (t232 == 0)) else (some false))) else (some false)) else (some false)) else (if t229 = true then (some false) else (if t230 = 0 then (if t231 = 0 then (some (t232 == 28)) else (some false)) else (some false))))) else (if t229 = true then (some false) else (if t230 = t244 then (if t231 = 0 then (some (t232 == t244)) else (some false)) else (some false)))) = some r := H
                  have A55 := Aside0.mk A550
                  clear A550
                  by_cases c56 : t244 = 0
                  · rw [if_pos c56] at H
                    have c56b0 : (t244 == 0) = true := beq_iff_eq.mpr c56
                    have c56b1 : (t244 != 0) = false := bne_eq_false_iff_eq.mpr c56
                    clear c56
                    replace H := Option.bind_eq_some_iff.mp H
                    obtain ⟨t245, A570, H⟩ := H
                    replace H : (if t245 = true then (if t229 = true then (if t230 = 0 then ((galoisref23_Place.f kj38 t238 l1).bind fun t246 => (if t231 = t246 then (some (t232 == 0)) else (some false))) else (some false)) else (some false)) else (if t229 = true then (some false) else (if t230 = 0 then (if t231 = 0 then (some (t232 == 28)) else (some false)) else (some false)))) = some r := H
                    have A57 := Aside0.mk A570
                    clear A570
                    by_cases c58 : t245 = true
                    · subst c58
                      have H1 : (if t229 = true then (if t230 = 0 then ((galoisref23_Place.f kj38 t238 l1).bind fun t246 => (if t231 = t246 then (some (t232 == 0)) else (some false))) else (some false)) else (some false)) = some r := by rw [if_pos rfl] at H; exact H
                      clear H
                      have H := H1
                      clear H1
                      by_cases c59 : t229 = true
                      · subst c59
                        have H1 : (if t230 = 0 then ((galoisref23_Place.f kj38 t238 l1).bind fun t246 => (if t231 = t246 then (some (t232 == 0)) else (some false))) else (some false)) = some r := by rw [if_pos rfl] at H; exact H
                        clear H
                        have H := H1
                        clear H1
                        by_cases c60 : t230 = 0
                        · rw [if_pos c60] at H
                          have c60b0 : (t230 == 0) = true := beq_iff_eq.mpr c60
                          have c60b1 : (t230 != 0) = false := bne_eq_false_iff_eq.mpr c60
                          clear c60
                          replace H := Option.bind_eq_some_iff.mp H
                          obtain ⟨t246, A610, H⟩ := H
                          replace H : (if t231 = t246 then (some (t232 == 0)) else (some false)) = some r := H
                          have A61 := Aside0.mk A610
                          clear A610
                          by_cases c62 : t231 = t246
                          · rw [if_pos c62] at H
                            have c62b0 : (t231 == t246) = true := beq_iff_eq.mpr c62
                            have c62b1 : (t231 != t246) = false := bne_eq_false_iff_eq.mpr c62
                            clear c62
                            obtain rfl := Option.some.inj H
                            have hcz63_0 : wc.cell? ⟨gb225, 0, none⟩ = some (.int .i64 a0_0) := (blk_cell BK225.out 0).trans rfl
                            have hcz63_1 : wc.cell? ⟨gb225, 1, none⟩ = some (.slice A0_1 l0_1.length c0_1) := (blk_cell BK225.out 1).trans rfl
                            have hfz63_0 := blk_frozen BK225.out 0
                            have hfz63_1 := blk_frozen BK225.out 1
                            as_aux_lemma =>
                              go_wp2_with (first | ((with_reducible refine gate_callee (f := 28) rfl ?_); refine goesL_ (some 110) rfl rfl Try.func28 (by kernel_rfl) rfl #[.agg #[.int .i64 a0_0, .slice A0_1 l0_1.length c0_1], .slice A1 l1.length c1] rfl (by (try simp only [List.map_toArray, List.map_cons, List.map_nil]); first | done | rfl | (simp only [List.length_drop, List.length_take]; rfl)) ?_; (with_reducible refine (galoisref23_With.calls kj38 a0_0 _ _ l0_1 _ _ l1 t244 _ ?side1 ?side2 ?side3 ?side4 A55.out).mono ?_); (case side1 => repeat (first | exact (Kd.C_below HR0_1.out HB.out) | (with_reducible refine Kd.C_alloc ?_ _) | (with_reducible refine Kd.C_drewN ?_ _) | (with_reducible refine Kd.C_drew ?_))); (case side2 => exact HC0_1.out); (case side3 => repeat (first | exact (Kd.C_below HR1.out HB.out) | (with_reducible refine Kd.C_alloc ?_ _) | (with_reducible refine Kd.C_drewN ?_ _) | (with_reducible refine Kd.C_drew ?_))); (case side4 => exact HC1.out); rintro e w64 ⟨rfl, hb⟩; refine ⟨_, rfl, ?_⟩; have n0_ := Aside0.mk (Kd.S_below (by (with_reducible repeat (first | apply Kd.S_alloc | apply Kd.S_drewN | apply Kd.S_drew)); exact HO_14.out) hb); have n1_ := Aside0.mk (blk_below (g := gb225) (o := .cells #[.int .i64 a0_0, .slice A0_1 l0_1.length c0_1] 24 (0, 0)) (by (with_reducible repeat (first | refine blk_drewN ?_ _ | refine blk_drew ?_ | refine blk_alloc ?_ _)); exact BK225.out) hb); have n2_ := Aside0.mk (below_step (by repeat (first | (with_reducible first | exact HB.out | apply below_alloc | apply pw_below_drewN | apply below_drew1 | refine below_set ?_ GE225.out) | exact HB.out)) hb); clear HO_14; clear BK225; clear HB; have HO_14 := n0_; have BK225 := n1_; have HB := n2_; clear n0_ n1_ n2_; (try clear hb); (try clear hb2); (try clear hk); (try clear hi); obtain ⟨Ao65, co65, eo65⟩ := Kd.S_slice HO_14.out; subst eo65) | ((with_reducible refine gate_callee (f := 29) rfl ?_); refine goesL_ (some 131) rfl rfl Try.func29 (by kernel_rfl) rfl #[.slice Ao65 t238.length co65, .slice A1 l1.length c1] rfl (by (try simp only [List.map_toArray, List.map_cons, List.map_nil]); first | done | rfl | (simp only [List.length_drop, List.length_take]; rfl)) ?_; (with_reducible refine (galoisref23_Has.calls kj38 _ _ t238 _ _ l1 true _ ?side1 ?side2 ?side3 ?side4 A57.out).mono ?_); (case side1 => repeat (first | exact (Kd.S_reads' HO_14.out).2.2 | (with_reducible refine Kd.C_alloc ?_ _) | (with_reducible refine Kd.C_drewN ?_ _) | (with_reducible refine Kd.C_drew ?_))); (case side2 => exact (Kd.S_reads' HO_14.out).2.1); (case side3 => repeat (first | exact (Kd.C_below HR1.out HB.out) | (with_reducible refine Kd.C_alloc ?_ _) | (with_reducible refine Kd.C_drewN ?_ _) | (with_reducible refine Kd.C_drew ?_))); (case side4 => exact HC1.out); rintro e w' ⟨rfl, ⟨nd, rfl⟩⟩; refine ⟨_, rfl, ?_⟩) | (go_at_call 30; (with_reducible refine (galoisref23_Place.calls kj38 _ _ t238 _ _ l1 t246 _ ?side1 ?side2 ?side3 ?side4 A61.out).mono ?_); (case side1 => repeat (first | exact (Kd.S_reads' HO_14.out).2.2 | (with_reducible refine Kd.C_alloc ?_ _) | (with_reducible refine Kd.C_drewN ?_ _) | (with_reducible refine Kd.C_drew ?_))); (case side2 => exact (Kd.S_reads' HO_14.out).2.1); (case side3 => repeat (first | exact (Kd.C_below HR1.out (by repeat (first | (with_reducible first | exact HB.out | apply below_alloc | apply pw_below_drewN | apply below_drew1 | refine below_set ?_ GE225.out) | exact HB.out))) | (with_reducible refine Kd.C_alloc ?_ _) | (with_reducible refine Kd.C_drewN ?_ _) | (with_reducible refine Kd.C_drew ?_))); (case side4 => exact HC1.out); rintro e w' ⟨rfl, ⟨nd, rfl⟩⟩))
                              go_ret
                              exact ⟨by first | rfl | (simp [errW_none, errW_some] <;> rfl) | (simp [*, errW_none, errW_some] <;> rfl), by repeat (first | (with_reducible first | exact HB.out | apply below_alloc | apply pw_below_drewN | apply below_drew1 | refine below_set ?_ GE225.out) | exact HB.out)⟩
                          · rw [if_neg c62] at H
                            have c62b0 : (t231 == t246) = false := beq_eq_false_iff_ne.mpr c62
                            have c62b1 : (t231 != t246) = true := bne_iff_ne.mpr c62
                            obtain rfl := Option.some.inj H
                            have hcz66_0 : wc.cell? ⟨gb225, 0, none⟩ = some (.int .i64 a0_0) := (blk_cell BK225.out 0).trans rfl
                            have hcz66_1 : wc.cell? ⟨gb225, 1, none⟩ = some (.slice A0_1 l0_1.length c0_1) := (blk_cell BK225.out 1).trans rfl
                            have hfz66_0 := blk_frozen BK225.out 0
                            have hfz66_1 := blk_frozen BK225.out 1
                            as_aux_lemma =>
                              go_wp2_with (first | ((with_reducible refine gate_callee (f := 28) rfl ?_); refine goesL_ (some 110) rfl rfl Try.func28 (by kernel_rfl) rfl #[.agg #[.int .i64 a0_0, .slice A0_1 l0_1.length c0_1], .slice A1 l1.length c1] rfl (by (try simp only [List.map_toArray, List.map_cons, List.map_nil]); first | done | rfl | (simp only [List.length_drop, List.length_take]; rfl)) ?_; (with_reducible refine (galoisref23_With.calls kj38 a0_0 _ _ l0_1 _ _ l1 t244 _ ?side1 ?side2 ?side3 ?side4 A55.out).mono ?_); (case side1 => repeat (first | exact (Kd.C_below HR0_1.out HB.out) | (with_reducible refine Kd.C_alloc ?_ _) | (with_reducible refine Kd.C_drewN ?_ _) | (with_reducible refine Kd.C_drew ?_))); (case side2 => exact HC0_1.out); (case side3 => repeat (first | exact (Kd.C_below HR1.out HB.out) | (with_reducible refine Kd.C_alloc ?_ _) | (with_reducible refine Kd.C_drewN ?_ _) | (with_reducible refine Kd.C_drew ?_))); (case side4 => exact HC1.out); rintro e w67 ⟨rfl, hb⟩; refine ⟨_, rfl, ?_⟩; have n0_ := Aside0.mk (Kd.S_below (by (with_reducible repeat (first | apply Kd.S_alloc | apply Kd.S_drewN | apply Kd.S_drew)); exact HO_14.out) hb); have n1_ := Aside0.mk (blk_below (g := gb225) (o := .cells #[.int .i64 a0_0, .slice A0_1 l0_1.length c0_1] 24 (0, 0)) (by (with_reducible repeat (first | refine blk_drewN ?_ _ | refine blk_drew ?_ | refine blk_alloc ?_ _)); exact BK225.out) hb); have n2_ := Aside0.mk (below_step (by repeat (first | (with_reducible first | exact HB.out | apply below_alloc | apply pw_below_drewN | apply below_drew1 | refine below_set ?_ GE225.out) | exact HB.out)) hb); clear HO_14; clear BK225; clear HB; have HO_14 := n0_; have BK225 := n1_; have HB := n2_; clear n0_ n1_ n2_; (try clear hb); (try clear hb2); (try clear hk); (try clear hi); obtain ⟨Ao68, co68, eo68⟩ := Kd.S_slice HO_14.out; subst eo68) | ((with_reducible refine gate_callee (f := 29) rfl ?_); refine goesL_ (some 131) rfl rfl Try.func29 (by kernel_rfl) rfl #[.slice Ao68 t238.length co68, .slice A1 l1.length c1] rfl (by (try simp only [List.map_toArray, List.map_cons, List.map_nil]); first | done | rfl | (simp only [List.length_drop, List.length_take]; rfl)) ?_; (with_reducible refine (galoisref23_Has.calls kj38 _ _ t238 _ _ l1 true _ ?side1 ?side2 ?side3 ?side4 A57.out).mono ?_); (case side1 => repeat (first | exact (Kd.S_reads' HO_14.out).2.2 | (with_reducible refine Kd.C_alloc ?_ _) | (with_reducible refine Kd.C_drewN ?_ _) | (with_reducible refine Kd.C_drew ?_))); (case side2 => exact (Kd.S_reads' HO_14.out).2.1); (case side3 => repeat (first | exact (Kd.C_below HR1.out HB.out) | (with_reducible refine Kd.C_alloc ?_ _) | (with_reducible refine Kd.C_drewN ?_ _) | (with_reducible refine Kd.C_drew ?_))); (case side4 => exact HC1.out); rintro e w' ⟨rfl, ⟨nd, rfl⟩⟩; refine ⟨_, rfl, ?_⟩) | (go_at_call 30; (with_reducible refine (galoisref23_Place.calls kj38 _ _ t238 _ _ l1 t246 _ ?side1 ?side2 ?side3 ?side4 A61.out).mono ?_); (case side1 => repeat (first | exact (Kd.S_reads' HO_14.out).2.2 | (with_reducible refine Kd.C_alloc ?_ _) | (with_reducible refine Kd.C_drewN ?_ _) | (with_reducible refine Kd.C_drew ?_))); (case side2 => exact (Kd.S_reads' HO_14.out).2.1); (case side3 => repeat (first | exact (Kd.C_below HR1.out (by repeat (first | (with_reducible first | exact HB.out | apply below_alloc | apply pw_below_drewN | apply below_drew1 | refine below_set ?_ GE225.out) | exact HB.out))) | (with_reducible refine Kd.C_alloc ?_ _) | (with_reducible refine Kd.C_drewN ?_ _) | (with_reducible refine Kd.C_drew ?_))); (case side4 => exact HC1.out); rintro e w' ⟨rfl, ⟨nd, rfl⟩⟩))
                              go_ret
                              exact ⟨by first | rfl | (simp [errW_none, errW_some] <;> rfl) | (simp [*, errW_none, errW_some] <;> rfl), by repeat (first | (with_reducible first | exact HB.out | apply below_alloc | apply pw_below_drewN | apply below_drew1 | refine below_set ?_ GE225.out) | exact HB.out)⟩
                        · rw [if_neg c60] at H
                          have c60b0 : (t230 == 0) = false := beq_eq_false_iff_ne.mpr c60
                          have c60b1 : (t230 != 0) = true := bne_iff_ne.mpr c60
                          obtain rfl := Option.some.inj H
                          have hcz69_0 : wc.cell? ⟨gb225, 0, none⟩ = some (.int .i64 a0_0) := (blk_cell BK225.out 0).trans rfl
                          have hcz69_1 : wc.cell? ⟨gb225, 1, none⟩ = some (.slice A0_1 l0_1.length c0_1) := (blk_cell BK225.out 1).trans rfl
                          have hfz69_0 := blk_frozen BK225.out 0
                          have hfz69_1 := blk_frozen BK225.out 1
                          as_aux_lemma =>
                            go_wp2_with (first | ((with_reducible refine gate_callee (f := 28) rfl ?_); refine goesL_ (some 110) rfl rfl Try.func28 (by kernel_rfl) rfl #[.agg #[.int .i64 a0_0, .slice A0_1 l0_1.length c0_1], .slice A1 l1.length c1] rfl (by (try simp only [List.map_toArray, List.map_cons, List.map_nil]); first | done | rfl | (simp only [List.length_drop, List.length_take]; rfl)) ?_; (with_reducible refine (galoisref23_With.calls kj38 a0_0 _ _ l0_1 _ _ l1 t244 _ ?side1 ?side2 ?side3 ?side4 A55.out).mono ?_); (case side1 => repeat (first | exact (Kd.C_below HR0_1.out HB.out) | (with_reducible refine Kd.C_alloc ?_ _) | (with_reducible refine Kd.C_drewN ?_ _) | (with_reducible refine Kd.C_drew ?_))); (case side2 => exact HC0_1.out); (case side3 => repeat (first | exact (Kd.C_below HR1.out HB.out) | (with_reducible refine Kd.C_alloc ?_ _) | (with_reducible refine Kd.C_drewN ?_ _) | (with_reducible refine Kd.C_drew ?_))); (case side4 => exact HC1.out); rintro e w70 ⟨rfl, hb⟩; refine ⟨_, rfl, ?_⟩; have n0_ := Aside0.mk (Kd.S_below (by (with_reducible repeat (first | apply Kd.S_alloc | apply Kd.S_drewN | apply Kd.S_drew)); exact HO_14.out) hb); have n1_ := Aside0.mk (blk_below (g := gb225) (o := .cells #[.int .i64 a0_0, .slice A0_1 l0_1.length c0_1] 24 (0, 0)) (by (with_reducible repeat (first | refine blk_drewN ?_ _ | refine blk_drew ?_ | refine blk_alloc ?_ _)); exact BK225.out) hb); have n2_ := Aside0.mk (below_step (by repeat (first | (with_reducible first | exact HB.out | apply below_alloc | apply pw_below_drewN | apply below_drew1 | refine below_set ?_ GE225.out) | exact HB.out)) hb); clear HO_14; clear BK225; clear HB; have HO_14 := n0_; have BK225 := n1_; have HB := n2_; clear n0_ n1_ n2_; (try clear hb); (try clear hb2); (try clear hk); (try clear hi); obtain ⟨Ao71, co71, eo71⟩ := Kd.S_slice HO_14.out; subst eo71) | ((with_reducible refine gate_callee (f := 29) rfl ?_); refine goesL_ (some 131) rfl rfl Try.func29 (by kernel_rfl) rfl #[.slice Ao71 t238.length co71, .slice A1 l1.length c1] rfl (by (try simp only [List.map_toArray, List.map_cons, List.map_nil]); first | done | rfl | (simp only [List.length_drop, List.length_take]; rfl)) ?_; (with_reducible refine (galoisref23_Has.calls kj38 _ _ t238 _ _ l1 true _ ?side1 ?side2 ?side3 ?side4 A57.out).mono ?_); (case side1 => repeat (first | exact (Kd.S_reads' HO_14.out).2.2 | (with_reducible refine Kd.C_alloc ?_ _) | (with_reducible refine Kd.C_drewN ?_ _) | (with_reducible refine Kd.C_drew ?_))); (case side2 => exact (Kd.S_reads' HO_14.out).2.1); (case side3 => repeat (first | exact (Kd.C_below HR1.out HB.out) | (with_reducible refine Kd.C_alloc ?_ _) | (with_reducible refine Kd.C_drewN ?_ _) | (with_reducible refine Kd.C_drew ?_))); (case side4 => exact HC1.out); rintro e w' ⟨rfl, ⟨nd, rfl⟩⟩; refine ⟨_, rfl, ?_⟩))
                            go_ret
                            exact ⟨by first | rfl | (simp [errW_none, errW_some] <;> rfl) | (simp [*, errW_none, errW_some] <;> rfl), by repeat (first | (with_reducible first | exact HB.out | apply below_alloc | apply pw_below_drewN | apply below_drew1 | refine below_set ?_ GE225.out) | exact HB.out)⟩
                      · replace c59 := Bool.eq_false_iff.mpr c59
                        subst c59
                        have H1 : (some false) = some r := by rw [if_neg (show ¬ (false = true) by decide)] at H; exact H
                        clear H
                        have H := H1
                        clear H1
                        obtain rfl := Option.some.inj H
                        have hcz72_0 : wc.cell? ⟨gb225, 0, none⟩ = some (.int .i64 a0_0) := (blk_cell BK225.out 0).trans rfl
                        have hcz72_1 : wc.cell? ⟨gb225, 1, none⟩ = some (.slice A0_1 l0_1.length c0_1) := (blk_cell BK225.out 1).trans rfl
                        have hfz72_0 := blk_frozen BK225.out 0
                        have hfz72_1 := blk_frozen BK225.out 1
                        as_aux_lemma =>
                          go_wp2_with (first | ((with_reducible refine gate_callee (f := 28) rfl ?_); refine goesL_ (some 110) rfl rfl Try.func28 (by kernel_rfl) rfl #[.agg #[.int .i64 a0_0, .slice A0_1 l0_1.length c0_1], .slice A1 l1.length c1] rfl (by (try simp only [List.map_toArray, List.map_cons, List.map_nil]); first | done | rfl | (simp only [List.length_drop, List.length_take]; rfl)) ?_; (with_reducible refine (galoisref23_With.calls kj38 a0_0 _ _ l0_1 _ _ l1 t244 _ ?side1 ?side2 ?side3 ?side4 A55.out).mono ?_); (case side1 => repeat (first | exact (Kd.C_below HR0_1.out HB.out) | (with_reducible refine Kd.C_alloc ?_ _) | (with_reducible refine Kd.C_drewN ?_ _) | (with_reducible refine Kd.C_drew ?_))); (case side2 => exact HC0_1.out); (case side3 => repeat (first | exact (Kd.C_below HR1.out HB.out) | (with_reducible refine Kd.C_alloc ?_ _) | (with_reducible refine Kd.C_drewN ?_ _) | (with_reducible refine Kd.C_drew ?_))); (case side4 => exact HC1.out); rintro e w73 ⟨rfl, hb⟩; refine ⟨_, rfl, ?_⟩; have n0_ := Aside0.mk (Kd.S_below (by (with_reducible repeat (first | apply Kd.S_alloc | apply Kd.S_drewN | apply Kd.S_drew)); exact HO_14.out) hb); have n1_ := Aside0.mk (blk_below (g := gb225) (o := .cells #[.int .i64 a0_0, .slice A0_1 l0_1.length c0_1] 24 (0, 0)) (by (with_reducible repeat (first | refine blk_drewN ?_ _ | refine blk_drew ?_ | refine blk_alloc ?_ _)); exact BK225.out) hb); have n2_ := Aside0.mk (below_step (by repeat (first | (with_reducible first | exact HB.out | apply below_alloc | apply pw_below_drewN | apply below_drew1 | refine below_set ?_ GE225.out) | exact HB.out)) hb); clear HO_14; clear BK225; clear HB; have HO_14 := n0_; have BK225 := n1_; have HB := n2_; clear n0_ n1_ n2_; (try clear hb); (try clear hb2); (try clear hk); (try clear hi); obtain ⟨Ao74, co74, eo74⟩ := Kd.S_slice HO_14.out; subst eo74) | ((with_reducible refine gate_callee (f := 29) rfl ?_); refine goesL_ (some 131) rfl rfl Try.func29 (by kernel_rfl) rfl #[.slice Ao74 t238.length co74, .slice A1 l1.length c1] rfl (by (try simp only [List.map_toArray, List.map_cons, List.map_nil]); first | done | rfl | (simp only [List.length_drop, List.length_take]; rfl)) ?_; (with_reducible refine (galoisref23_Has.calls kj38 _ _ t238 _ _ l1 true _ ?side1 ?side2 ?side3 ?side4 A57.out).mono ?_); (case side1 => repeat (first | exact (Kd.S_reads' HO_14.out).2.2 | (with_reducible refine Kd.C_alloc ?_ _) | (with_reducible refine Kd.C_drewN ?_ _) | (with_reducible refine Kd.C_drew ?_))); (case side2 => exact (Kd.S_reads' HO_14.out).2.1); (case side3 => repeat (first | exact (Kd.C_below HR1.out HB.out) | (with_reducible refine Kd.C_alloc ?_ _) | (with_reducible refine Kd.C_drewN ?_ _) | (with_reducible refine Kd.C_drew ?_))); (case side4 => exact HC1.out); rintro e w' ⟨rfl, ⟨nd, rfl⟩⟩; refine ⟨_, rfl, ?_⟩))
                          go_ret
                          exact ⟨by first | rfl | (simp [errW_none, errW_some] <;> rfl) | (simp [*, errW_none, errW_some] <;> rfl), by repeat (first | (with_reducible first | exact HB.out | apply below_alloc | apply pw_below_drewN | apply below_drew1 | refine below_set ?_ GE225.out) | exact HB.out)⟩
                    · replace c58 := Bool.eq_false_iff.mpr c58
                      subst c58
                      have H1 : (if t229 = true then (some false) else (if t230 = 0 then (if t231 = 0 then (some (t232 == 28)) else (some false)) else (some false))) = some r := by rw [if_neg (show ¬ (false = true) by decide)] at H; exact H
                      clear H
                      have H := H1
                      clear H1
                      by_cases c75 : t229 = true
                      · subst c75
                        have H1 : (some false) = some r := by rw [if_pos rfl] at H; exact H
                        clear H
                        have H := H1
                        clear H1
                        obtain rfl := Option.some.inj H
                        have hcz76_0 : wc.cell? ⟨gb225, 0, none⟩ = some (.int .i64 a0_0) := (blk_cell BK225.out 0).trans rfl
                        have hcz76_1 : wc.cell? ⟨gb225, 1, none⟩ = some (.slice A0_1 l0_1.length c0_1) := (blk_cell BK225.out 1).trans rfl
                        have hfz76_0 := blk_frozen BK225.out 0
                        have hfz76_1 := blk_frozen BK225.out 1
                        as_aux_lemma =>
                          go_wp2_with (first | ((with_reducible refine gate_callee (f := 28) rfl ?_); refine goesL_ (some 110) rfl rfl Try.func28 (by kernel_rfl) rfl #[.agg #[.int .i64 a0_0, .slice A0_1 l0_1.length c0_1], .slice A1 l1.length c1] rfl (by (try simp only [List.map_toArray, List.map_cons, List.map_nil]); first | done | rfl | (simp only [List.length_drop, List.length_take]; rfl)) ?_; (with_reducible refine (galoisref23_With.calls kj38 a0_0 _ _ l0_1 _ _ l1 t244 _ ?side1 ?side2 ?side3 ?side4 A55.out).mono ?_); (case side1 => repeat (first | exact (Kd.C_below HR0_1.out HB.out) | (with_reducible refine Kd.C_alloc ?_ _) | (with_reducible refine Kd.C_drewN ?_ _) | (with_reducible refine Kd.C_drew ?_))); (case side2 => exact HC0_1.out); (case side3 => repeat (first | exact (Kd.C_below HR1.out HB.out) | (with_reducible refine Kd.C_alloc ?_ _) | (with_reducible refine Kd.C_drewN ?_ _) | (with_reducible refine Kd.C_drew ?_))); (case side4 => exact HC1.out); rintro e w77 ⟨rfl, hb⟩; refine ⟨_, rfl, ?_⟩; have n0_ := Aside0.mk (Kd.S_below (by (with_reducible repeat (first | apply Kd.S_alloc | apply Kd.S_drewN | apply Kd.S_drew)); exact HO_14.out) hb); have n1_ := Aside0.mk (blk_below (g := gb225) (o := .cells #[.int .i64 a0_0, .slice A0_1 l0_1.length c0_1] 24 (0, 0)) (by (with_reducible repeat (first | refine blk_drewN ?_ _ | refine blk_drew ?_ | refine blk_alloc ?_ _)); exact BK225.out) hb); have n2_ := Aside0.mk (below_step (by repeat (first | (with_reducible first | exact HB.out | apply below_alloc | apply pw_below_drewN | apply below_drew1 | refine below_set ?_ GE225.out) | exact HB.out)) hb); clear HO_14; clear BK225; clear HB; have HO_14 := n0_; have BK225 := n1_; have HB := n2_; clear n0_ n1_ n2_; (try clear hb); (try clear hb2); (try clear hk); (try clear hi); obtain ⟨Ao78, co78, eo78⟩ := Kd.S_slice HO_14.out; subst eo78) | ((with_reducible refine gate_callee (f := 29) rfl ?_); refine goesL_ (some 131) rfl rfl Try.func29 (by kernel_rfl) rfl #[.slice Ao78 t238.length co78, .slice A1 l1.length c1] rfl (by (try simp only [List.map_toArray, List.map_cons, List.map_nil]); first | done | rfl | (simp only [List.length_drop, List.length_take]; rfl)) ?_; (with_reducible refine (galoisref23_Has.calls kj38 _ _ t238 _ _ l1 false _ ?side1 ?side2 ?side3 ?side4 A57.out).mono ?_); (case side1 => repeat (first | exact (Kd.S_reads' HO_14.out).2.2 | (with_reducible refine Kd.C_alloc ?_ _) | (with_reducible refine Kd.C_drewN ?_ _) | (with_reducible refine Kd.C_drew ?_))); (case side2 => exact (Kd.S_reads' HO_14.out).2.1); (case side3 => repeat (first | exact (Kd.C_below HR1.out HB.out) | (with_reducible refine Kd.C_alloc ?_ _) | (with_reducible refine Kd.C_drewN ?_ _) | (with_reducible refine Kd.C_drew ?_))); (case side4 => exact HC1.out); rintro e w' ⟨rfl, ⟨nd, rfl⟩⟩; refine ⟨_, rfl, ?_⟩))
                          go_ret
                          exact ⟨by first | rfl | (simp [errW_none, errW_some] <;> rfl) | (simp [*, errW_none, errW_some] <;> rfl), by repeat (first | (with_reducible first | exact HB.out | apply below_alloc | apply pw_below_drewN | apply below_drew1 | refine below_set ?_ GE225.out) | exact HB.out)⟩
                      · replace c75 := Bool.eq_false_iff.mpr c75
                        subst c75
                        have H1 : (if t230 = 0 then (if t231 = 0 then (some (t232 == 28)) else (some false)) else (some false)) = some r := by rw [if_neg (show ¬ (false = true) by decide)] at H; exact H
                        clear H
                        have H := H1
                        clear H1
                        by_cases c79 : t230 = 0
                        · rw [if_pos c79] at H
                          have c79b0 : (t230 == 0) = true := beq_iff_eq.mpr c79
                          have c79b1 : (t230 != 0) = false := bne_eq_false_iff_eq.mpr c79
                          clear c79
                          by_cases c80 : t231 = 0
                          · rw [if_pos c80] at H
                            have c80b0 : (t231 == 0) = true := beq_iff_eq.mpr c80
                            have c80b1 : (t231 != 0) = false := bne_eq_false_iff_eq.mpr c80
                            clear c80
                            obtain rfl := Option.some.inj H
                            have hcz81_0 : wc.cell? ⟨gb225, 0, none⟩ = some (.int .i64 a0_0) := (blk_cell BK225.out 0).trans rfl
                            have hcz81_1 : wc.cell? ⟨gb225, 1, none⟩ = some (.slice A0_1 l0_1.length c0_1) := (blk_cell BK225.out 1).trans rfl
                            have hfz81_0 := blk_frozen BK225.out 0
                            have hfz81_1 := blk_frozen BK225.out 1
                            as_aux_lemma =>
                              go_wp2_with (first | ((with_reducible refine gate_callee (f := 28) rfl ?_); refine goesL_ (some 110) rfl rfl Try.func28 (by kernel_rfl) rfl #[.agg #[.int .i64 a0_0, .slice A0_1 l0_1.length c0_1], .slice A1 l1.length c1] rfl (by (try simp only [List.map_toArray, List.map_cons, List.map_nil]); first | done | rfl | (simp only [List.length_drop, List.length_take]; rfl)) ?_; (with_reducible refine (galoisref23_With.calls kj38 a0_0 _ _ l0_1 _ _ l1 t244 _ ?side1 ?side2 ?side3 ?side4 A55.out).mono ?_); (case side1 => repeat (first | exact (Kd.C_below HR0_1.out HB.out) | (with_reducible refine Kd.C_alloc ?_ _) | (with_reducible refine Kd.C_drewN ?_ _) | (with_reducible refine Kd.C_drew ?_))); (case side2 => exact HC0_1.out); (case side3 => repeat (first | exact (Kd.C_below HR1.out HB.out) | (with_reducible refine Kd.C_alloc ?_ _) | (with_reducible refine Kd.C_drewN ?_ _) | (with_reducible refine Kd.C_drew ?_))); (case side4 => exact HC1.out); rintro e w82 ⟨rfl, hb⟩; refine ⟨_, rfl, ?_⟩; have n0_ := Aside0.mk (Kd.S_below (by (with_reducible repeat (first | apply Kd.S_alloc | apply Kd.S_drewN | apply Kd.S_drew)); exact HO_14.out) hb); have n1_ := Aside0.mk (blk_below (g := gb225) (o := .cells #[.int .i64 a0_0, .slice A0_1 l0_1.length c0_1] 24 (0, 0)) (by (with_reducible repeat (first | refine blk_drewN ?_ _ | refine blk_drew ?_ | refine blk_alloc ?_ _)); exact BK225.out) hb); have n2_ := Aside0.mk (below_step (by repeat (first | (with_reducible first | exact HB.out | apply below_alloc | apply pw_below_drewN | apply below_drew1 | refine below_set ?_ GE225.out) | exact HB.out)) hb); clear HO_14; clear BK225; clear HB; have HO_14 := n0_; have BK225 := n1_; have HB := n2_; clear n0_ n1_ n2_; (try clear hb); (try clear hb2); (try clear hk); (try clear hi); obtain ⟨Ao83, co83, eo83⟩ := Kd.S_slice HO_14.out; subst eo83) | ((with_reducible refine gate_callee (f := 29) rfl ?_); refine goesL_ (some 131) rfl rfl Try.func29 (by kernel_rfl) rfl #[.slice Ao83 t238.length co83, .slice A1 l1.length c1] rfl (by (try simp only [List.map_toArray, List.map_cons, List.map_nil]); first | done | rfl | (simp only [List.length_drop, List.length_take]; rfl)) ?_; (with_reducible refine (galoisref23_Has.calls kj38 _ _ t238 _ _ l1 false _ ?side1 ?side2 ?side3 ?side4 A57.out).mono ?_); (case side1 => repeat (first | exact (Kd.S_reads' HO_14.out).2.2 | (with_reducible refine Kd.C_alloc ?_ _) | (with_reducible refine Kd.C_drewN ?_ _) | (with_reducible refine Kd.C_drew ?_))); (case side2 => exact (Kd.S_reads' HO_14.out).2.1); (case side3 => repeat (first | exact (Kd.C_below HR1.out HB.out) | (with_reducible refine Kd.C_alloc ?_ _) | (with_reducible refine Kd.C_drewN ?_ _) | (with_reducible refine Kd.C_drew ?_))); (case side4 => exact HC1.out); rintro e w' ⟨rfl, ⟨nd, rfl⟩⟩; refine ⟨_, rfl, ?_⟩))
                              go_ret
                              exact ⟨by first | rfl | (simp [errW_none, errW_some] <;> rfl) | (simp [*, errW_none, errW_some] <;> rfl), by repeat (first | (with_reducible first | exact HB.out | apply below_alloc | apply pw_below_drewN | apply below_drew1 | refine below_set ?_ GE225.out) | exact HB.out)⟩
                          · rw [if_neg c80] at H
                            have c80b0 : (t231 == 0) = false := beq_eq_false_iff_ne.mpr c80
                            have c80b1 : (t231 != 0) = true := bne_iff_ne.mpr c80
                            obtain rfl := Option.some.inj H
                            have hcz84_0 : wc.cell? ⟨gb225, 0, none⟩ = some (.int .i64 a0_0) := (blk_cell BK225.out 0).trans rfl
                            have hcz84_1 : wc.cell? ⟨gb225, 1, none⟩ = some (.slice A0_1 l0_1.length c0_1) := (blk_cell BK225.out 1).trans rfl
                            have hfz84_0 := blk_frozen BK225.out 0
                            have hfz84_1 := blk_frozen BK225.out 1
                            as_aux_lemma =>
                              go_wp2_with (first | ((with_reducible refine gate_callee (f := 28) rfl ?_); refine goesL_ (some 110) rfl rfl Try.func28 (by kernel_rfl) rfl #[.agg #[.int .i64 a0_0, .slice A0_1 l0_1.length c0_1], .slice A1 l1.length c1] rfl (by (try simp only [List.map_toArray, List.map_cons, List.map_nil]); first | done | rfl | (simp only [List.length_drop, List.length_take]; rfl)) ?_; (with_reducible refine (galoisref23_With.calls kj38 a0_0 _ _ l0_1 _ _ l1 t244 _ ?side1 ?side2 ?side3 ?side4 A55.out).mono ?_); (case side1 => repeat (first | exact (Kd.C_below HR0_1.out HB.out) | (with_reducible refine Kd.C_alloc ?_ _) | (with_reducible refine Kd.C_drewN ?_ _) | (with_reducible refine Kd.C_drew ?_))); (case side2 => exact HC0_1.out); (case side3 => repeat (first | exact (Kd.C_below HR1.out HB.out) | (with_reducible refine Kd.C_alloc ?_ _) | (with_reducible refine Kd.C_drewN ?_ _) | (with_reducible refine Kd.C_drew ?_))); (case side4 => exact HC1.out); rintro e w85 ⟨rfl, hb⟩; refine ⟨_, rfl, ?_⟩; have n0_ := Aside0.mk (Kd.S_below (by (with_reducible repeat (first | apply Kd.S_alloc | apply Kd.S_drewN | apply Kd.S_drew)); exact HO_14.out) hb); have n1_ := Aside0.mk (blk_below (g := gb225) (o := .cells #[.int .i64 a0_0, .slice A0_1 l0_1.length c0_1] 24 (0, 0)) (by (with_reducible repeat (first | refine blk_drewN ?_ _ | refine blk_drew ?_ | refine blk_alloc ?_ _)); exact BK225.out) hb); have n2_ := Aside0.mk (below_step (by repeat (first | (with_reducible first | exact HB.out | apply below_alloc | apply pw_below_drewN | apply below_drew1 | refine below_set ?_ GE225.out) | exact HB.out)) hb); clear HO_14; clear BK225; clear HB; have HO_14 := n0_; have BK225 := n1_; have HB := n2_; clear n0_ n1_ n2_; (try clear hb); (try clear hb2); (try clear hk); (try clear hi); obtain ⟨Ao86, co86, eo86⟩ := Kd.S_slice HO_14.out; subst eo86) | ((with_reducible refine gate_callee (f := 29) rfl ?_); refine goesL_ (some 131) rfl rfl Try.func29 (by kernel_rfl) rfl #[.slice Ao86 t238.length co86, .slice A1 l1.length c1] rfl (by (try simp only [List.map_toArray, List.map_cons, List.map_nil]); first | done | rfl | (simp only [List.length_drop, List.length_take]; rfl)) ?_; (with_reducible refine (galoisref23_Has.calls kj38 _ _ t238 _ _ l1 false _ ?side1 ?side2 ?side3 ?side4 A57.out).mono ?_); (case side1 => repeat (first | exact (Kd.S_reads' HO_14.out).2.2 | (with_reducible refine Kd.C_alloc ?_ _) | (with_reducible refine Kd.C_drewN ?_ _) | (with_reducible refine Kd.C_drew ?_))); (case side2 => exact (Kd.S_reads' HO_14.out).2.1); (case side3 => repeat (first | exact (Kd.C_below HR1.out HB.out) | (with_reducible refine Kd.C_alloc ?_ _) | (with_reducible refine Kd.C_drewN ?_ _) | (with_reducible refine Kd.C_drew ?_))); (case side4 => exact HC1.out); rintro e w' ⟨rfl, ⟨nd, rfl⟩⟩; refine ⟨_, rfl, ?_⟩))
                              go_ret
                              exact ⟨by first | rfl | (simp [errW_none, errW_some] <;> rfl) | (simp [*, errW_none, errW_some] <;> rfl), by repeat (first | (with_reducible first | exact HB.out | apply below_alloc | apply pw_below_drewN | apply below_drew1 | refine below_set ?_ GE225.out) | exact HB.out)⟩
                        · rw [if_neg c79] at H
                          have c79b0 : (t230 == 0) = false := beq_eq_false_iff_ne.mpr c79
                          have c79b1 : (t230 != 0) = true := bne_iff_ne.mpr c79
                          obtain rfl := Option.some.inj H
                          have hcz87_0 : wc.cell? ⟨gb225, 0, none⟩ = some (.int .i64 a0_0) := (blk_cell BK225.out 0).trans rfl
                          have hcz87_1 : wc.cell? ⟨gb225, 1, none⟩ = some (.slice A0_1 l0_1.length c0_1) := (blk_cell BK225.out 1).trans rfl
                          have hfz87_0 := blk_frozen BK225.out 0
                          have hfz87_1 := blk_frozen BK225.out 1
                          as_aux_lemma =>
                            go_wp2_with (first | ((with_reducible refine gate_callee (f := 28) rfl ?_); refine goesL_ (some 110) rfl rfl Try.func28 (by kernel_rfl) rfl #[.agg #[.int .i64 a0_0, .slice A0_1 l0_1.length c0_1], .slice A1 l1.length c1] rfl (by (try simp only [List.map_toArray, List.map_cons, List.map_nil]); first | done | rfl | (simp only [List.length_drop, List.length_take]; rfl)) ?_; (with_reducible refine (galoisref23_With.calls kj38 a0_0 _ _ l0_1 _ _ l1 t244 _ ?side1 ?side2 ?side3 ?side4 A55.out).mono ?_); (case side1 => repeat (first | exact (Kd.C_below HR0_1.out HB.out) | (with_reducible refine Kd.C_alloc ?_ _) | (with_reducible refine Kd.C_drewN ?_ _) | (with_reducible refine Kd.C_drew ?_))); (case side2 => exact HC0_1.out); (case side3 => repeat (first | exact (Kd.C_below HR1.out HB.out) | (with_reducible refine Kd.C_alloc ?_ _) | (with_reducible refine Kd.C_drewN ?_ _) | (with_reducible refine Kd.C_drew ?_))); (case side4 => exact HC1.out); rintro e w88 ⟨rfl, hb⟩; refine ⟨_, rfl, ?_⟩; have n0_ := Aside0.mk (Kd.S_below (by (with_reducible repeat (first | apply Kd.S_alloc | apply Kd.S_drewN | apply Kd.S_drew)); exact HO_14.out) hb); have n1_ := Aside0.mk (blk_below (g := gb225) (o := .cells #[.int .i64 a0_0, .slice A0_1 l0_1.length c0_1] 24 (0, 0)) (by (with_reducible repeat (first | refine blk_drewN ?_ _ | refine blk_drew ?_ | refine blk_alloc ?_ _)); exact BK225.out) hb); have n2_ := Aside0.mk (below_step (by repeat (first | (with_reducible first | exact HB.out | apply below_alloc | apply pw_below_drewN | apply below_drew1 | refine below_set ?_ GE225.out) | exact HB.out)) hb); clear HO_14; clear BK225; clear HB; have HO_14 := n0_; have BK225 := n1_; have HB := n2_; clear n0_ n1_ n2_; (try clear hb); (try clear hb2); (try clear hk); (try clear hi); obtain ⟨Ao89, co89, eo89⟩ := Kd.S_slice HO_14.out; subst eo89) | ((with_reducible refine gate_callee (f := 29) rfl ?_); refine goesL_ (some 131) rfl rfl Try.func29 (by kernel_rfl) rfl #[.slice Ao89 t238.length co89, .slice A1 l1.length c1] rfl (by (try simp only [List.map_toArray, List.map_cons, List.map_nil]); first | done | rfl | (simp only [List.length_drop, List.length_take]; rfl)) ?_; (with_reducible refine (galoisref23_Has.calls kj38 _ _ t238 _ _ l1 false _ ?side1 ?side2 ?side3 ?side4 A57.out).mono ?_); (case side1 => repeat (first | exact (Kd.S_reads' HO_14.out).2.2 | (with_reducible refine Kd.C_alloc ?_ _) | (with_reducible refine Kd.C_drewN ?_ _) | (with_reducible refine Kd.C_drew ?_))); (case side2 => exact (Kd.S_reads' HO_14.out).2.1); (case side3 => repeat (first | exact (Kd.C_below HR1.out HB.out) | (with_reducible refine Kd.C_alloc ?_ _) | (with_reducible refine Kd.C_drewN ?_ _) | (with_reducible refine Kd.C_drew ?_))); (case side4 => exact HC1.out); rintro e w' ⟨rfl, ⟨nd, rfl⟩⟩; refine ⟨_, rfl, ?_⟩))
                            go_ret
                            exact ⟨by first | rfl | (simp [errW_none, errW_some] <;> rfl) | (simp [*, errW_none, errW_some] <;> rfl), by repeat (first | (with_reducible first | exact HB.out | apply below_alloc | apply pw_below_drewN | apply below_drew1 | refine below_set ?_ GE225.out) | exact HB.out)⟩
                  · rw [if_neg c56] at H
                    have c56b0 : (t244 == 0) = false := beq_eq_false_iff_ne.mpr c56
                    have c56b1 : (t244 != 0) = true := bne_iff_ne.mpr c56
                    by_cases c90 : t229 = true
                    · subst c90
                      have H1 : (some false) = some r := by rw [if_pos rfl] at H; exact H
                      clear H
                      have H := H1
                      clear H1
                      obtain rfl := Option.some.inj H
                      have hcz91_0 : wc.cell? ⟨gb225, 0, none⟩ = some (.int .i64 a0_0) := (blk_cell BK225.out 0).trans rfl
                      have hcz91_1 : wc.cell? ⟨gb225, 1, none⟩ = some (.slice A0_1 l0_1.length c0_1) := (blk_cell BK225.out 1).trans rfl
                      have hfz91_0 := blk_frozen BK225.out 0
                      have hfz91_1 := blk_frozen BK225.out 1
                      as_aux_lemma =>
                        go_wp2_with (first | ((with_reducible refine gate_callee (f := 28) rfl ?_); refine goesL_ (some 110) rfl rfl Try.func28 (by kernel_rfl) rfl #[.agg #[.int .i64 a0_0, .slice A0_1 l0_1.length c0_1], .slice A1 l1.length c1] rfl (by (try simp only [List.map_toArray, List.map_cons, List.map_nil]); first | done | rfl | (simp only [List.length_drop, List.length_take]; rfl)) ?_; (with_reducible refine (galoisref23_With.calls kj38 a0_0 _ _ l0_1 _ _ l1 t244 _ ?side1 ?side2 ?side3 ?side4 A55.out).mono ?_); (case side1 => repeat (first | exact (Kd.C_below HR0_1.out HB.out) | (with_reducible refine Kd.C_alloc ?_ _) | (with_reducible refine Kd.C_drewN ?_ _) | (with_reducible refine Kd.C_drew ?_))); (case side2 => exact HC0_1.out); (case side3 => repeat (first | exact (Kd.C_below HR1.out HB.out) | (with_reducible refine Kd.C_alloc ?_ _) | (with_reducible refine Kd.C_drewN ?_ _) | (with_reducible refine Kd.C_drew ?_))); (case side4 => exact HC1.out); rintro e w92 ⟨rfl, hb⟩; refine ⟨_, rfl, ?_⟩; have n0_ := Aside0.mk (Kd.S_below (by (with_reducible repeat (first | apply Kd.S_alloc | apply Kd.S_drewN | apply Kd.S_drew)); exact HO_14.out) hb); have n1_ := Aside0.mk (blk_below (g := gb225) (o := .cells #[.int .i64 a0_0, .slice A0_1 l0_1.length c0_1] 24 (0, 0)) (by (with_reducible repeat (first | refine blk_drewN ?_ _ | refine blk_drew ?_ | refine blk_alloc ?_ _)); exact BK225.out) hb); have n2_ := Aside0.mk (below_step (by repeat (first | (with_reducible first | exact HB.out | apply below_alloc | apply pw_below_drewN | apply below_drew1 | refine below_set ?_ GE225.out) | exact HB.out)) hb); clear HO_14; clear BK225; clear HB; have HO_14 := n0_; have BK225 := n1_; have HB := n2_; clear n0_ n1_ n2_; (try clear hb); (try clear hb2); (try clear hk); (try clear hi)))
                        go_ret
                        exact ⟨by first | rfl | (simp [errW_none, errW_some] <;> rfl) | (simp [*, errW_none, errW_some] <;> rfl), by repeat (first | (with_reducible first | exact HB.out | apply below_alloc | apply pw_below_drewN | apply below_drew1 | refine below_set ?_ GE225.out) | exact HB.out)⟩
                    · replace c90 := Bool.eq_false_iff.mpr c90
                      subst c90
                      have H1 : (if t230 = t244 then (if t231 = 0 then (some (t232 == t244)) else (some false)) else (some false)) = some r := by rw [if_neg (show ¬ (false = true) by decide)] at H; exact H
                      clear H
                      have H := H1
                      clear H1
                      by_cases c93 : t230 = t244
                      · rw [if_pos c93] at H
                        have c93b0 : (t230 == t244) = true := beq_iff_eq.mpr c93
                        have c93b1 : (t230 != t244) = false := bne_eq_false_iff_eq.mpr c93
                        clear c93
                        by_cases c94 : t231 = 0
                        · rw [if_pos c94] at H
                          have c94b0 : (t231 == 0) = true := beq_iff_eq.mpr c94
                          have c94b1 : (t231 != 0) = false := bne_eq_false_iff_eq.mpr c94
                          clear c94
                          obtain rfl := Option.some.inj H
                          have hcz95_0 : wc.cell? ⟨gb225, 0, none⟩ = some (.int .i64 a0_0) := (blk_cell BK225.out 0).trans rfl
                          have hcz95_1 : wc.cell? ⟨gb225, 1, none⟩ = some (.slice A0_1 l0_1.length c0_1) := (blk_cell BK225.out 1).trans rfl
                          have hfz95_0 := blk_frozen BK225.out 0
                          have hfz95_1 := blk_frozen BK225.out 1
                          as_aux_lemma =>
                            go_wp2_with (first | ((with_reducible refine gate_callee (f := 28) rfl ?_); refine goesL_ (some 110) rfl rfl Try.func28 (by kernel_rfl) rfl #[.agg #[.int .i64 a0_0, .slice A0_1 l0_1.length c0_1], .slice A1 l1.length c1] rfl (by (try simp only [List.map_toArray, List.map_cons, List.map_nil]); first | done | rfl | (simp only [List.length_drop, List.length_take]; rfl)) ?_; (with_reducible refine (galoisref23_With.calls kj38 a0_0 _ _ l0_1 _ _ l1 t244 _ ?side1 ?side2 ?side3 ?side4 A55.out).mono ?_); (case side1 => repeat (first | exact (Kd.C_below HR0_1.out HB.out) | (with_reducible refine Kd.C_alloc ?_ _) | (with_reducible refine Kd.C_drewN ?_ _) | (with_reducible refine Kd.C_drew ?_))); (case side2 => exact HC0_1.out); (case side3 => repeat (first | exact (Kd.C_below HR1.out HB.out) | (with_reducible refine Kd.C_alloc ?_ _) | (with_reducible refine Kd.C_drewN ?_ _) | (with_reducible refine Kd.C_drew ?_))); (case side4 => exact HC1.out); rintro e w96 ⟨rfl, hb⟩; refine ⟨_, rfl, ?_⟩; have n0_ := Aside0.mk (Kd.S_below (by (with_reducible repeat (first | apply Kd.S_alloc | apply Kd.S_drewN | apply Kd.S_drew)); exact HO_14.out) hb); have n1_ := Aside0.mk (blk_below (g := gb225) (o := .cells #[.int .i64 a0_0, .slice A0_1 l0_1.length c0_1] 24 (0, 0)) (by (with_reducible repeat (first | refine blk_drewN ?_ _ | refine blk_drew ?_ | refine blk_alloc ?_ _)); exact BK225.out) hb); have n2_ := Aside0.mk (below_step (by repeat (first | (with_reducible first | exact HB.out | apply below_alloc | apply pw_below_drewN | apply below_drew1 | refine below_set ?_ GE225.out) | exact HB.out)) hb); clear HO_14; clear BK225; clear HB; have HO_14 := n0_; have BK225 := n1_; have HB := n2_; clear n0_ n1_ n2_; (try clear hb); (try clear hb2); (try clear hk); (try clear hi)))
                            go_ret
                            exact ⟨by first | rfl | (simp [errW_none, errW_some] <;> rfl) | (simp [*, errW_none, errW_some] <;> rfl), by repeat (first | (with_reducible first | exact HB.out | apply below_alloc | apply pw_below_drewN | apply below_drew1 | refine below_set ?_ GE225.out) | exact HB.out)⟩
                        · rw [if_neg c94] at H
                          have c94b0 : (t231 == 0) = false := beq_eq_false_iff_ne.mpr c94
                          have c94b1 : (t231 != 0) = true := bne_iff_ne.mpr c94
                          obtain rfl := Option.some.inj H
                          have hcz97_0 : wc.cell? ⟨gb225, 0, none⟩ = some (.int .i64 a0_0) := (blk_cell BK225.out 0).trans rfl
                          have hcz97_1 : wc.cell? ⟨gb225, 1, none⟩ = some (.slice A0_1 l0_1.length c0_1) := (blk_cell BK225.out 1).trans rfl
                          have hfz97_0 := blk_frozen BK225.out 0
                          have hfz97_1 := blk_frozen BK225.out 1
                          as_aux_lemma =>
                            go_wp2_with (first | ((with_reducible refine gate_callee (f := 28) rfl ?_); refine goesL_ (some 110) rfl rfl Try.func28 (by kernel_rfl) rfl #[.agg #[.int .i64 a0_0, .slice A0_1 l0_1.length c0_1], .slice A1 l1.length c1] rfl (by (try simp only [List.map_toArray, List.map_cons, List.map_nil]); first | done | rfl | (simp only [List.length_drop, List.length_take]; rfl)) ?_; (with_reducible refine (galoisref23_With.calls kj38 a0_0 _ _ l0_1 _ _ l1 t244 _ ?side1 ?side2 ?side3 ?side4 A55.out).mono ?_); (case side1 => repeat (first | exact (Kd.C_below HR0_1.out HB.out) | (with_reducible refine Kd.C_alloc ?_ _) | (with_reducible refine Kd.C_drewN ?_ _) | (with_reducible refine Kd.C_drew ?_))); (case side2 => exact HC0_1.out); (case side3 => repeat (first | exact (Kd.C_below HR1.out HB.out) | (with_reducible refine Kd.C_alloc ?_ _) | (with_reducible refine Kd.C_drewN ?_ _) | (with_reducible refine Kd.C_drew ?_))); (case side4 => exact HC1.out); rintro e w98 ⟨rfl, hb⟩; refine ⟨_, rfl, ?_⟩; have n0_ := Aside0.mk (Kd.S_below (by (with_reducible repeat (first | apply Kd.S_alloc | apply Kd.S_drewN | apply Kd.S_drew)); exact HO_14.out) hb); have n1_ := Aside0.mk (blk_below (g := gb225) (o := .cells #[.int .i64 a0_0, .slice A0_1 l0_1.length c0_1] 24 (0, 0)) (by (with_reducible repeat (first | refine blk_drewN ?_ _ | refine blk_drew ?_ | refine blk_alloc ?_ _)); exact BK225.out) hb); have n2_ := Aside0.mk (below_step (by repeat (first | (with_reducible first | exact HB.out | apply below_alloc | apply pw_below_drewN | apply below_drew1 | refine below_set ?_ GE225.out) | exact HB.out)) hb); clear HO_14; clear BK225; clear HB; have HO_14 := n0_; have BK225 := n1_; have HB := n2_; clear n0_ n1_ n2_; (try clear hb); (try clear hb2); (try clear hk); (try clear hi)))
                            go_ret
                            exact ⟨by first | rfl | (simp [errW_none, errW_some] <;> rfl) | (simp [*, errW_none, errW_some] <;> rfl), by repeat (first | (with_reducible first | exact HB.out | apply below_alloc | apply pw_below_drewN | apply below_drew1 | refine below_set ?_ GE225.out) | exact HB.out)⟩
                      · rw [if_neg c93] at H
                        have c93b0 : (t230 == t244) = false := beq_eq_false_iff_ne.mpr c93
                        have c93b1 : (t230 != t244) = true := bne_iff_ne.mpr c93
                        obtain rfl := Option.some.inj H
                        have hcz99_0 : wc.cell? ⟨gb225, 0, none⟩ = some (.int .i64 a0_0) := (blk_cell BK225.out 0).trans rfl
                        have hcz99_1 : wc.cell? ⟨gb225, 1, none⟩ = some (.slice A0_1 l0_1.length c0_1) := (blk_cell BK225.out 1).trans rfl
                        have hfz99_0 := blk_frozen BK225.out 0
                        have hfz99_1 := blk_frozen BK225.out 1
                        as_aux_lemma =>
                          go_wp2_with (first | ((with_reducible refine gate_callee (f := 28) rfl ?_); refine goesL_ (some 110) rfl rfl Try.func28 (by kernel_rfl) rfl #[.agg #[.int .i64 a0_0, .slice A0_1 l0_1.length c0_1], .slice A1 l1.length c1] rfl (by (try simp only [List.map_toArray, List.map_cons, List.map_nil]); first | done | rfl | (simp only [List.length_drop, List.length_take]; rfl)) ?_; (with_reducible refine (galoisref23_With.calls kj38 a0_0 _ _ l0_1 _ _ l1 t244 _ ?side1 ?side2 ?side3 ?side4 A55.out).mono ?_); (case side1 => repeat (first | exact (Kd.C_below HR0_1.out HB.out) | (with_reducible refine Kd.C_alloc ?_ _) | (with_reducible refine Kd.C_drewN ?_ _) | (with_reducible refine Kd.C_drew ?_))); (case side2 => exact HC0_1.out); (case side3 => repeat (first | exact (Kd.C_below HR1.out HB.out) | (with_reducible refine Kd.C_alloc ?_ _) | (with_reducible refine Kd.C_drewN ?_ _) | (with_reducible refine Kd.C_drew ?_))); (case side4 => exact HC1.out); rintro e w100 ⟨rfl, hb⟩; refine ⟨_, rfl, ?_⟩; have n0_ := Aside0.mk (Kd.S_below (by (with_reducible repeat (first | apply Kd.S_alloc | apply Kd.S_drewN | apply Kd.S_drew)); exact HO_14.out) hb); have n1_ := Aside0.mk (blk_below (g := gb225) (o := .cells #[.int .i64 a0_0, .slice A0_1 l0_1.length c0_1] 24 (0, 0)) (by (with_reducible repeat (first | refine blk_drewN ?_ _ | refine blk_drew ?_ | refine blk_alloc ?_ _)); exact BK225.out) hb); have n2_ := Aside0.mk (below_step (by repeat (first | (with_reducible first | exact HB.out | apply below_alloc | apply pw_below_drewN | apply below_drew1 | refine below_set ?_ GE225.out) | exact HB.out)) hb); clear HO_14; clear BK225; clear HB; have HO_14 := n0_; have BK225 := n1_; have HB := n2_; clear n0_ n1_ n2_; (try clear hb); (try clear hb2); (try clear hk); (try clear hi)))
                          go_ret
                          exact ⟨by first | rfl | (simp [errW_none, errW_some] <;> rfl) | (simp [*, errW_none, errW_some] <;> rfl), by repeat (first | (with_reducible first | exact HB.out | apply below_alloc | apply pw_below_drewN | apply below_drew1 | refine below_set ?_ GE225.out) | exact HB.out)⟩
        · rw [if_neg c24] at H
          have c24b0 : (t237 == 0) = false := beq_eq_false_iff_ne.mpr c24
          have c24b1 : (t237 != 0) = true := bne_iff_ne.mpr c24
          by_cases c101 : t229 = true
          · subst c101
            have H1 : (some false) = some r := by rw [if_pos rfl] at H; exact H
            clear H
            have H := H1
            clear H1
            obtain rfl := Option.some.inj H
            have hcz102_0 : wc.cell? ⟨gb225, 0, none⟩ = some (.int .i64 a0_0) := (blk_cell BK225.out 0).trans rfl
            have hcz102_1 : wc.cell? ⟨gb225, 1, none⟩ = some (.slice A0_1 l0_1.length c0_1) := (blk_cell BK225.out 1).trans rfl
            have hfz102_0 := blk_frozen BK225.out 0
            have hfz102_1 := blk_frozen BK225.out 1
            as_aux_lemma =>
              go_wp2_with (first | ((with_reducible refine gate_callee (f := 24) rfl ?_); refine goesL_ (some 32) rfl rfl Try.func24 (by kernel_rfl) rfl #[.agg #[.int .i64 a0_0, .slice A0_1 l0_1.length c0_1], .slice A1 l1.length c1] rfl (by (try simp only [List.map_toArray, List.map_cons, List.map_nil]); first | done | rfl | (simp only [List.length_drop, List.length_take]; rfl)) ?_; (with_reducible refine (permgroup_Contains.calls kj3 a0_0 _ _ l0_1 _ _ l1 true t230 _ ?side1 ?side2 ?side3 ?side4 A20.out).mono ?_); (case side1 => repeat (first | exact (Kd.C_below HR0_1.out HB.out) | (with_reducible refine Kd.C_alloc ?_ _) | (with_reducible refine Kd.C_drewN ?_ _) | (with_reducible refine Kd.C_drew ?_))); (case side2 => exact HC0_1.out); (case side3 => repeat (first | exact (Kd.C_below HR1.out HB.out) | (with_reducible refine Kd.C_alloc ?_ _) | (with_reducible refine Kd.C_drewN ?_ _) | (with_reducible refine Kd.C_drew ?_))); (case side4 => exact HC1.out); rintro e w103 ⟨rfl, hb⟩; refine ⟨_, rfl, ?_⟩; have n0_ := Aside0.mk (blk_below (g := gb225) (o := .cells #[.int .i64 a0_0, .slice A0_1 l0_1.length c0_1] 24 (0, 0)) (by (with_reducible repeat (first | refine blk_drewN ?_ _ | refine blk_drew ?_ | refine blk_alloc ?_ _)); exact BK225.out) hb); have n1_ := Aside0.mk (below_step (by repeat (first | (with_reducible first | exact HB.out | apply below_alloc | apply pw_below_drewN | apply below_drew1 | refine below_set ?_ GE225.out) | exact HB.out)) hb); clear BK225; clear HB; have BK225 := n0_; have HB := n1_; clear n0_ n1_; (try clear hb); (try clear hb2); (try clear hk); (try clear hi); have hcz104_0 : w103.cell? ⟨gb225, 0, none⟩ = some (.int .i64 a0_0) := (blk_cell BK225.out 0).trans rfl; have hcz104_1 : w103.cell? ⟨gb225, 1, none⟩ = some (.slice A0_1 l0_1.length c0_1) := (blk_cell BK225.out 1).trans rfl; have hfz104_0 := blk_frozen BK225.out 0; have hfz104_1 := blk_frozen BK225.out 1) | ((with_reducible refine gate_callee (f := 25) rfl ?_); refine goesL_ (some 38) rfl rfl Try.func25 (by kernel_rfl) rfl #[.agg #[.int .i64 a0_0, .slice A0_1 l0_1.length c0_1], .slice A1 l1.length c1] rfl (by (try simp only [List.map_toArray, List.map_cons, List.map_nil]); first | done | rfl | (simp only [List.length_drop, List.length_take]; rfl)) ?_; (with_reducible refine (permgroup_Index.calls kj3 a0_0 _ _ l0_1 _ _ l1 t231 t232 _ ?side1 ?side2 ?side3 ?side4 A21.out).mono ?_); (case side1 => repeat (first | exact (Kd.C_below HR0_1.out HB.out) | (with_reducible refine Kd.C_alloc ?_ _) | (with_reducible refine Kd.C_drewN ?_ _) | (with_reducible refine Kd.C_drew ?_))); (case side2 => exact HC0_1.out); (case side3 => repeat (first | exact (Kd.C_below HR1.out HB.out) | (with_reducible refine Kd.C_alloc ?_ _) | (with_reducible refine Kd.C_drewN ?_ _) | (with_reducible refine Kd.C_drew ?_))); (case side4 => exact HC1.out); rintro e w105 ⟨rfl, hb⟩; refine ⟨_, rfl, ?_⟩; have n0_ := Aside0.mk (blk_below (g := gb225) (o := .cells #[.int .i64 a0_0, .slice A0_1 l0_1.length c0_1] 24 (0, 0)) (by (with_reducible repeat (first | refine blk_drewN ?_ _ | refine blk_drew ?_ | refine blk_alloc ?_ _)); exact BK225.out) hb); have n1_ := Aside0.mk (below_step (by repeat (first | (with_reducible first | exact HB.out | apply below_alloc | apply pw_below_drewN | apply below_drew1 | refine below_set ?_ GE225.out) | exact HB.out)) hb); clear BK225; clear HB; have BK225 := n0_; have HB := n1_; clear n0_ n1_; (try clear hb); (try clear hb2); (try clear hk); (try clear hi); have hcz106_0 : w105.cell? ⟨gb225, 0, none⟩ = some (.int .i64 a0_0) := (blk_cell BK225.out 0).trans rfl; have hcz106_1 : w105.cell? ⟨gb225, 1, none⟩ = some (.slice A0_1 l0_1.length c0_1) := (blk_cell BK225.out 1).trans rfl; have hfz106_0 := blk_frozen BK225.out 0; have hfz106_1 := blk_frozen BK225.out 1) | ((with_reducible refine gate_callee (f := 26) rfl ?_); refine goesL_ (some 44) rfl rfl Try.func26 (by kernel_rfl) rfl #[.agg #[.int .i64 a0_0, .slice A0_1 l0_1.length c0_1], .int .i64 a2] rfl (by (try simp only [List.map_toArray, List.map_cons, List.map_nil]); first | done | rfl | (simp only [List.length_drop, List.length_take]; rfl)) ?_; (with_reducible refine (permgroup_Element.calls kj3 a0_0 _ _ l0_1 a2 t233 t236 _ ?side1 ?side2 A22.out).mono ?_); (case side1 => repeat (first | exact (Kd.C_below HR0_1.out HB.out) | (with_reducible refine Kd.C_alloc ?_ _) | (with_reducible refine Kd.C_drewN ?_ _) | (with_reducible refine Kd.C_drew ?_))); (case side2 => exact HC0_1.out); rintro e w107 ⟨v234, rfl, ho0, hb⟩; refine ⟨_, rfl, ?_⟩; have n0_ := Aside0.mk (Kd.R_lower ho0 (below_size (by repeat (first | (with_reducible first | exact HB.out | apply below_alloc | apply pw_below_drewN | apply below_drew1 | refine below_set ?_ GE225.out) | exact HB.out)))); have n1_ := Aside0.mk (blk_below (g := gb225) (o := .cells #[.int .i64 a0_0, .slice A0_1 l0_1.length c0_1] 24 (0, 0)) (by (with_reducible repeat (first | refine blk_drewN ?_ _ | refine blk_drew ?_ | refine blk_alloc ?_ _)); exact BK225.out) hb); have n2_ := Aside0.mk (below_step (by repeat (first | (with_reducible first | exact HB.out | apply below_alloc | apply pw_below_drewN | apply below_drew1 | refine below_set ?_ GE225.out) | exact HB.out)) hb); clear BK225; clear HB; have HO235 := n0_; have BK225 := n1_; have HB := n2_; clear n0_ n1_ n2_; (try clear hb); (try clear hb2); (try clear hk); (try clear hi); (try clear ho0); have hcz108_0 : w107.cell? ⟨gb225, 0, none⟩ = some (.int .i64 a0_0) := (blk_cell BK225.out 0).trans rfl; have hcz108_1 : w107.cell? ⟨gb225, 1, none⟩ = some (.slice A0_1 l0_1.length c0_1) := (blk_cell BK225.out 1).trans rfl; have hfz108_0 := blk_frozen BK225.out 0; have hfz108_1 := blk_frozen BK225.out 1) | ((with_reducible refine gate_callee (f := 11) rfl ?_); refine goesL_ (some 48) rfl rfl Try.func11 (by kernel_rfl) rfl #[.agg #[.int .i64 a0_0, .slice A0_1 l0_1.length c0_1]] rfl (by (try simp only [List.map_toArray, List.map_cons, List.map_nil]); first | done | rfl | (simp only [List.length_drop, List.length_take]; rfl)) ?_; (with_reducible refine (galoisref23_Check.calls kj3 a0_0 _ _ l0_1 t237 _ ?side1 ?side2 A23.out).mono ?_); (case side1 => repeat (first | exact (Kd.C_below HR0_1.out HB.out) | (with_reducible refine Kd.C_alloc ?_ _) | (with_reducible refine Kd.C_drewN ?_ _) | (with_reducible refine Kd.C_drew ?_))); (case side2 => exact HC0_1.out); rintro e w109 ⟨rfl, hb⟩; refine ⟨_, rfl, ?_⟩; have n0_ := Aside0.mk (Kd.R_below (by (with_reducible repeat (first | apply Kd.R_alloc | apply Kd.R_drewN | apply Kd.R_drew)); exact HO235.out) hb); have n1_ := Aside0.mk (blk_below (g := gb225) (o := .cells #[.int .i64 a0_0, .slice A0_1 l0_1.length c0_1] 24 (0, 0)) (by (with_reducible repeat (first | refine blk_drewN ?_ _ | refine blk_drew ?_ | refine blk_alloc ?_ _)); exact BK225.out) hb); have n2_ := Aside0.mk (below_step (by repeat (first | (with_reducible first | exact HB.out | apply below_alloc | apply pw_below_drewN | apply below_drew1 | refine below_set ?_ GE225.out) | exact HB.out)) hb); clear HO235; clear BK225; clear HB; have HO235 := n0_; have BK225 := n1_; have HB := n2_; clear n0_ n1_ n2_; (try clear hb); (try clear hb2); (try clear hk); (try clear hi)))
              go_ret
              exact ⟨by first | rfl | (simp [errW_none, errW_some] <;> rfl) | (simp [*, errW_none, errW_some] <;> rfl), by repeat (first | (with_reducible first | exact HB.out | apply below_alloc | apply pw_below_drewN | apply below_drew1 | refine below_set ?_ GE225.out) | exact HB.out)⟩
          · replace c101 := Bool.eq_false_iff.mpr c101
            subst c101
            have H1 : (if t230 = t237 then (if t231 = 0 then (if t232 = t237 then (if (t233.length : Int) = 0 then (some (t236 == t237)) else (some false)) else (some false)) else (some false)) else (some false)) = some r := by rw [if_neg (show ¬ (false = true) by decide)] at H; exact H
            clear H
            have H := H1
            clear H1
            by_cases c110 : t230 = t237
            · rw [if_pos c110] at H
              have c110b0 : (t230 == t237) = true := beq_iff_eq.mpr c110
              have c110b1 : (t230 != t237) = false := bne_eq_false_iff_eq.mpr c110
              clear c110
              by_cases c111 : t231 = 0
              · rw [if_pos c111] at H
                have c111b0 : (t231 == 0) = true := beq_iff_eq.mpr c111
                have c111b1 : (t231 != 0) = false := bne_eq_false_iff_eq.mpr c111
                clear c111
                by_cases c112 : t232 = t237
                · rw [if_pos c112] at H
                  have c112b0 : (t232 == t237) = true := beq_iff_eq.mpr c112
                  have c112b1 : (t232 != t237) = false := bne_eq_false_iff_eq.mpr c112
                  clear c112
                  by_cases c113 : (t233.length : Int) = 0
                  · rw [if_pos c113] at H
                    have c113b0 : ((t233.length : Int) == 0) = true := beq_iff_eq.mpr c113
                    have c113b1 : ((t233.length : Int) != 0) = false := bne_eq_false_iff_eq.mpr c113
                    clear c113
                    obtain rfl := Option.some.inj H
                    have hcz114_0 : wc.cell? ⟨gb225, 0, none⟩ = some (.int .i64 a0_0) := (blk_cell BK225.out 0).trans rfl
                    have hcz114_1 : wc.cell? ⟨gb225, 1, none⟩ = some (.slice A0_1 l0_1.length c0_1) := (blk_cell BK225.out 1).trans rfl
                    have hfz114_0 := blk_frozen BK225.out 0
                    have hfz114_1 := blk_frozen BK225.out 1
                    as_aux_lemma =>
                      go_wp2_with (first | ((with_reducible refine gate_callee (f := 24) rfl ?_); refine goesL_ (some 32) rfl rfl Try.func24 (by kernel_rfl) rfl #[.agg #[.int .i64 a0_0, .slice A0_1 l0_1.length c0_1], .slice A1 l1.length c1] rfl (by (try simp only [List.map_toArray, List.map_cons, List.map_nil]); first | done | rfl | (simp only [List.length_drop, List.length_take]; rfl)) ?_; (with_reducible refine (permgroup_Contains.calls kj3 a0_0 _ _ l0_1 _ _ l1 false t230 _ ?side1 ?side2 ?side3 ?side4 A20.out).mono ?_); (case side1 => repeat (first | exact (Kd.C_below HR0_1.out HB.out) | (with_reducible refine Kd.C_alloc ?_ _) | (with_reducible refine Kd.C_drewN ?_ _) | (with_reducible refine Kd.C_drew ?_))); (case side2 => exact HC0_1.out); (case side3 => repeat (first | exact (Kd.C_below HR1.out HB.out) | (with_reducible refine Kd.C_alloc ?_ _) | (with_reducible refine Kd.C_drewN ?_ _) | (with_reducible refine Kd.C_drew ?_))); (case side4 => exact HC1.out); rintro e w115 ⟨rfl, hb⟩; refine ⟨_, rfl, ?_⟩; have n0_ := Aside0.mk (blk_below (g := gb225) (o := .cells #[.int .i64 a0_0, .slice A0_1 l0_1.length c0_1] 24 (0, 0)) (by (with_reducible repeat (first | refine blk_drewN ?_ _ | refine blk_drew ?_ | refine blk_alloc ?_ _)); exact BK225.out) hb); have n1_ := Aside0.mk (below_step (by repeat (first | (with_reducible first | exact HB.out | apply below_alloc | apply pw_below_drewN | apply below_drew1 | refine below_set ?_ GE225.out) | exact HB.out)) hb); clear BK225; clear HB; have BK225 := n0_; have HB := n1_; clear n0_ n1_; (try clear hb); (try clear hb2); (try clear hk); (try clear hi); have hcz116_0 : w115.cell? ⟨gb225, 0, none⟩ = some (.int .i64 a0_0) := (blk_cell BK225.out 0).trans rfl; have hcz116_1 : w115.cell? ⟨gb225, 1, none⟩ = some (.slice A0_1 l0_1.length c0_1) := (blk_cell BK225.out 1).trans rfl; have hfz116_0 := blk_frozen BK225.out 0; have hfz116_1 := blk_frozen BK225.out 1) | ((with_reducible refine gate_callee (f := 25) rfl ?_); refine goesL_ (some 38) rfl rfl Try.func25 (by kernel_rfl) rfl #[.agg #[.int .i64 a0_0, .slice A0_1 l0_1.length c0_1], .slice A1 l1.length c1] rfl (by (try simp only [List.map_toArray, List.map_cons, List.map_nil]); first | done | rfl | (simp only [List.length_drop, List.length_take]; rfl)) ?_; (with_reducible refine (permgroup_Index.calls kj3 a0_0 _ _ l0_1 _ _ l1 t231 t232 _ ?side1 ?side2 ?side3 ?side4 A21.out).mono ?_); (case side1 => repeat (first | exact (Kd.C_below HR0_1.out HB.out) | (with_reducible refine Kd.C_alloc ?_ _) | (with_reducible refine Kd.C_drewN ?_ _) | (with_reducible refine Kd.C_drew ?_))); (case side2 => exact HC0_1.out); (case side3 => repeat (first | exact (Kd.C_below HR1.out HB.out) | (with_reducible refine Kd.C_alloc ?_ _) | (with_reducible refine Kd.C_drewN ?_ _) | (with_reducible refine Kd.C_drew ?_))); (case side4 => exact HC1.out); rintro e w117 ⟨rfl, hb⟩; refine ⟨_, rfl, ?_⟩; have n0_ := Aside0.mk (blk_below (g := gb225) (o := .cells #[.int .i64 a0_0, .slice A0_1 l0_1.length c0_1] 24 (0, 0)) (by (with_reducible repeat (first | refine blk_drewN ?_ _ | refine blk_drew ?_ | refine blk_alloc ?_ _)); exact BK225.out) hb); have n1_ := Aside0.mk (below_step (by repeat (first | (with_reducible first | exact HB.out | apply below_alloc | apply pw_below_drewN | apply below_drew1 | refine below_set ?_ GE225.out) | exact HB.out)) hb); clear BK225; clear HB; have BK225 := n0_; have HB := n1_; clear n0_ n1_; (try clear hb); (try clear hb2); (try clear hk); (try clear hi); have hcz118_0 : w117.cell? ⟨gb225, 0, none⟩ = some (.int .i64 a0_0) := (blk_cell BK225.out 0).trans rfl; have hcz118_1 : w117.cell? ⟨gb225, 1, none⟩ = some (.slice A0_1 l0_1.length c0_1) := (blk_cell BK225.out 1).trans rfl; have hfz118_0 := blk_frozen BK225.out 0; have hfz118_1 := blk_frozen BK225.out 1) | ((with_reducible refine gate_callee (f := 26) rfl ?_); refine goesL_ (some 44) rfl rfl Try.func26 (by kernel_rfl) rfl #[.agg #[.int .i64 a0_0, .slice A0_1 l0_1.length c0_1], .int .i64 a2] rfl (by (try simp only [List.map_toArray, List.map_cons, List.map_nil]); first | done | rfl | (simp only [List.length_drop, List.length_take]; rfl)) ?_; (with_reducible refine (permgroup_Element.calls kj3 a0_0 _ _ l0_1 a2 t233 t236 _ ?side1 ?side2 A22.out).mono ?_); (case side1 => repeat (first | exact (Kd.C_below HR0_1.out HB.out) | (with_reducible refine Kd.C_alloc ?_ _) | (with_reducible refine Kd.C_drewN ?_ _) | (with_reducible refine Kd.C_drew ?_))); (case side2 => exact HC0_1.out); rintro e w119 ⟨v234, rfl, ho0, hb⟩; refine ⟨_, rfl, ?_⟩; have n0_ := Aside0.mk (Kd.R_lower ho0 (below_size (by repeat (first | (with_reducible first | exact HB.out | apply below_alloc | apply pw_below_drewN | apply below_drew1 | refine below_set ?_ GE225.out) | exact HB.out)))); have n1_ := Aside0.mk (blk_below (g := gb225) (o := .cells #[.int .i64 a0_0, .slice A0_1 l0_1.length c0_1] 24 (0, 0)) (by (with_reducible repeat (first | refine blk_drewN ?_ _ | refine blk_drew ?_ | refine blk_alloc ?_ _)); exact BK225.out) hb); have n2_ := Aside0.mk (below_step (by repeat (first | (with_reducible first | exact HB.out | apply below_alloc | apply pw_below_drewN | apply below_drew1 | refine below_set ?_ GE225.out) | exact HB.out)) hb); clear BK225; clear HB; have HO235 := n0_; have BK225 := n1_; have HB := n2_; clear n0_ n1_ n2_; (try clear hb); (try clear hb2); (try clear hk); (try clear hi); (try clear ho0); have hcz120_0 : w119.cell? ⟨gb225, 0, none⟩ = some (.int .i64 a0_0) := (blk_cell BK225.out 0).trans rfl; have hcz120_1 : w119.cell? ⟨gb225, 1, none⟩ = some (.slice A0_1 l0_1.length c0_1) := (blk_cell BK225.out 1).trans rfl; have hfz120_0 := blk_frozen BK225.out 0; have hfz120_1 := blk_frozen BK225.out 1) | ((with_reducible refine gate_callee (f := 11) rfl ?_); refine goesL_ (some 48) rfl rfl Try.func11 (by kernel_rfl) rfl #[.agg #[.int .i64 a0_0, .slice A0_1 l0_1.length c0_1]] rfl (by (try simp only [List.map_toArray, List.map_cons, List.map_nil]); first | done | rfl | (simp only [List.length_drop, List.length_take]; rfl)) ?_; (with_reducible refine (galoisref23_Check.calls kj3 a0_0 _ _ l0_1 t237 _ ?side1 ?side2 A23.out).mono ?_); (case side1 => repeat (first | exact (Kd.C_below HR0_1.out HB.out) | (with_reducible refine Kd.C_alloc ?_ _) | (with_reducible refine Kd.C_drewN ?_ _) | (with_reducible refine Kd.C_drew ?_))); (case side2 => exact HC0_1.out); rintro e w121 ⟨rfl, hb⟩; refine ⟨_, rfl, ?_⟩; have n0_ := Aside0.mk (Kd.R_below (by (with_reducible repeat (first | apply Kd.R_alloc | apply Kd.R_drewN | apply Kd.R_drew)); exact HO235.out) hb); have n1_ := Aside0.mk (blk_below (g := gb225) (o := .cells #[.int .i64 a0_0, .slice A0_1 l0_1.length c0_1] 24 (0, 0)) (by (with_reducible repeat (first | refine blk_drewN ?_ _ | refine blk_drew ?_ | refine blk_alloc ?_ _)); exact BK225.out) hb); have n2_ := Aside0.mk (below_step (by repeat (first | (with_reducible first | exact HB.out | apply below_alloc | apply pw_below_drewN | apply below_drew1 | refine below_set ?_ GE225.out) | exact HB.out)) hb); clear HO235; clear BK225; clear HB; have HO235 := n0_; have BK225 := n1_; have HB := n2_; clear n0_ n1_ n2_; (try clear hb); (try clear hb2); (try clear hk); (try clear hi); obtain ⟨Ao122, co122, eo122⟩ := Kd.R_slice HO235.out; subst eo122))
                      go_ret
                      exact ⟨by first | rfl | (simp [errW_none, errW_some] <;> rfl) | (simp [*, errW_none, errW_some] <;> rfl), by repeat (first | (with_reducible first | exact HB.out | apply below_alloc | apply pw_below_drewN | apply below_drew1 | refine below_set ?_ GE225.out) | exact HB.out)⟩
                  · rw [if_neg c113] at H
                    have c113b0 : ((t233.length : Int) == 0) = false := beq_eq_false_iff_ne.mpr c113
                    have c113b1 : ((t233.length : Int) != 0) = true := bne_iff_ne.mpr c113
                    have c113b2 : ¬ (t233 = []) := fun h_ => c113 (by rw [h_]; rfl)
                    obtain rfl := Option.some.inj H
                    have hcz123_0 : wc.cell? ⟨gb225, 0, none⟩ = some (.int .i64 a0_0) := (blk_cell BK225.out 0).trans rfl
                    have hcz123_1 : wc.cell? ⟨gb225, 1, none⟩ = some (.slice A0_1 l0_1.length c0_1) := (blk_cell BK225.out 1).trans rfl
                    have hfz123_0 := blk_frozen BK225.out 0
                    have hfz123_1 := blk_frozen BK225.out 1
                    as_aux_lemma =>
                      go_wp2_with (first | ((with_reducible refine gate_callee (f := 24) rfl ?_); refine goesL_ (some 32) rfl rfl Try.func24 (by kernel_rfl) rfl #[.agg #[.int .i64 a0_0, .slice A0_1 l0_1.length c0_1], .slice A1 l1.length c1] rfl (by (try simp only [List.map_toArray, List.map_cons, List.map_nil]); first | done | rfl | (simp only [List.length_drop, List.length_take]; rfl)) ?_; (with_reducible refine (permgroup_Contains.calls kj3 a0_0 _ _ l0_1 _ _ l1 false t230 _ ?side1 ?side2 ?side3 ?side4 A20.out).mono ?_); (case side1 => repeat (first | exact (Kd.C_below HR0_1.out HB.out) | (with_reducible refine Kd.C_alloc ?_ _) | (with_reducible refine Kd.C_drewN ?_ _) | (with_reducible refine Kd.C_drew ?_))); (case side2 => exact HC0_1.out); (case side3 => repeat (first | exact (Kd.C_below HR1.out HB.out) | (with_reducible refine Kd.C_alloc ?_ _) | (with_reducible refine Kd.C_drewN ?_ _) | (with_reducible refine Kd.C_drew ?_))); (case side4 => exact HC1.out); rintro e w124 ⟨rfl, hb⟩; refine ⟨_, rfl, ?_⟩; have n0_ := Aside0.mk (blk_below (g := gb225) (o := .cells #[.int .i64 a0_0, .slice A0_1 l0_1.length c0_1] 24 (0, 0)) (by (with_reducible repeat (first | refine blk_drewN ?_ _ | refine blk_drew ?_ | refine blk_alloc ?_ _)); exact BK225.out) hb); have n1_ := Aside0.mk (below_step (by repeat (first | (with_reducible first | exact HB.out | apply below_alloc | apply pw_below_drewN | apply below_drew1 | refine below_set ?_ GE225.out) | exact HB.out)) hb); clear BK225; clear HB; have BK225 := n0_; have HB := n1_; clear n0_ n1_; (try clear hb); (try clear hb2); (try clear hk); (try clear hi); have hcz125_0 : w124.cell? ⟨gb225, 0, none⟩ = some (.int .i64 a0_0) := (blk_cell BK225.out 0).trans rfl; have hcz125_1 : w124.cell? ⟨gb225, 1, none⟩ = some (.slice A0_1 l0_1.length c0_1) := (blk_cell BK225.out 1).trans rfl; have hfz125_0 := blk_frozen BK225.out 0; have hfz125_1 := blk_frozen BK225.out 1) | ((with_reducible refine gate_callee (f := 25) rfl ?_); refine goesL_ (some 38) rfl rfl Try.func25 (by kernel_rfl) rfl #[.agg #[.int .i64 a0_0, .slice A0_1 l0_1.length c0_1], .slice A1 l1.length c1] rfl (by (try simp only [List.map_toArray, List.map_cons, List.map_nil]); first | done | rfl | (simp only [List.length_drop, List.length_take]; rfl)) ?_; (with_reducible refine (permgroup_Index.calls kj3 a0_0 _ _ l0_1 _ _ l1 t231 t232 _ ?side1 ?side2 ?side3 ?side4 A21.out).mono ?_); (case side1 => repeat (first | exact (Kd.C_below HR0_1.out HB.out) | (with_reducible refine Kd.C_alloc ?_ _) | (with_reducible refine Kd.C_drewN ?_ _) | (with_reducible refine Kd.C_drew ?_))); (case side2 => exact HC0_1.out); (case side3 => repeat (first | exact (Kd.C_below HR1.out HB.out) | (with_reducible refine Kd.C_alloc ?_ _) | (with_reducible refine Kd.C_drewN ?_ _) | (with_reducible refine Kd.C_drew ?_))); (case side4 => exact HC1.out); rintro e w126 ⟨rfl, hb⟩; refine ⟨_, rfl, ?_⟩; have n0_ := Aside0.mk (blk_below (g := gb225) (o := .cells #[.int .i64 a0_0, .slice A0_1 l0_1.length c0_1] 24 (0, 0)) (by (with_reducible repeat (first | refine blk_drewN ?_ _ | refine blk_drew ?_ | refine blk_alloc ?_ _)); exact BK225.out) hb); have n1_ := Aside0.mk (below_step (by repeat (first | (with_reducible first | exact HB.out | apply below_alloc | apply pw_below_drewN | apply below_drew1 | refine below_set ?_ GE225.out) | exact HB.out)) hb); clear BK225; clear HB; have BK225 := n0_; have HB := n1_; clear n0_ n1_; (try clear hb); (try clear hb2); (try clear hk); (try clear hi); have hcz127_0 : w126.cell? ⟨gb225, 0, none⟩ = some (.int .i64 a0_0) := (blk_cell BK225.out 0).trans rfl; have hcz127_1 : w126.cell? ⟨gb225, 1, none⟩ = some (.slice A0_1 l0_1.length c0_1) := (blk_cell BK225.out 1).trans rfl; have hfz127_0 := blk_frozen BK225.out 0; have hfz127_1 := blk_frozen BK225.out 1) | ((with_reducible refine gate_callee (f := 26) rfl ?_); refine goesL_ (some 44) rfl rfl Try.func26 (by kernel_rfl) rfl #[.agg #[.int .i64 a0_0, .slice A0_1 l0_1.length c0_1], .int .i64 a2] rfl (by (try simp only [List.map_toArray, List.map_cons, List.map_nil]); first | done | rfl | (simp only [List.length_drop, List.length_take]; rfl)) ?_; (with_reducible refine (permgroup_Element.calls kj3 a0_0 _ _ l0_1 a2 t233 t236 _ ?side1 ?side2 A22.out).mono ?_); (case side1 => repeat (first | exact (Kd.C_below HR0_1.out HB.out) | (with_reducible refine Kd.C_alloc ?_ _) | (with_reducible refine Kd.C_drewN ?_ _) | (with_reducible refine Kd.C_drew ?_))); (case side2 => exact HC0_1.out); rintro e w128 ⟨v234, rfl, ho0, hb⟩; refine ⟨_, rfl, ?_⟩; have n0_ := Aside0.mk (Kd.R_lower ho0 (below_size (by repeat (first | (with_reducible first | exact HB.out | apply below_alloc | apply pw_below_drewN | apply below_drew1 | refine below_set ?_ GE225.out) | exact HB.out)))); have n1_ := Aside0.mk (blk_below (g := gb225) (o := .cells #[.int .i64 a0_0, .slice A0_1 l0_1.length c0_1] 24 (0, 0)) (by (with_reducible repeat (first | refine blk_drewN ?_ _ | refine blk_drew ?_ | refine blk_alloc ?_ _)); exact BK225.out) hb); have n2_ := Aside0.mk (below_step (by repeat (first | (with_reducible first | exact HB.out | apply below_alloc | apply pw_below_drewN | apply below_drew1 | refine below_set ?_ GE225.out) | exact HB.out)) hb); clear BK225; clear HB; have HO235 := n0_; have BK225 := n1_; have HB := n2_; clear n0_ n1_ n2_; (try clear hb); (try clear hb2); (try clear hk); (try clear hi); (try clear ho0); have hcz129_0 : w128.cell? ⟨gb225, 0, none⟩ = some (.int .i64 a0_0) := (blk_cell BK225.out 0).trans rfl; have hcz129_1 : w128.cell? ⟨gb225, 1, none⟩ = some (.slice A0_1 l0_1.length c0_1) := (blk_cell BK225.out 1).trans rfl; have hfz129_0 := blk_frozen BK225.out 0; have hfz129_1 := blk_frozen BK225.out 1) | ((with_reducible refine gate_callee (f := 11) rfl ?_); refine goesL_ (some 48) rfl rfl Try.func11 (by kernel_rfl) rfl #[.agg #[.int .i64 a0_0, .slice A0_1 l0_1.length c0_1]] rfl (by (try simp only [List.map_toArray, List.map_cons, List.map_nil]); first | done | rfl | (simp only [List.length_drop, List.length_take]; rfl)) ?_; (with_reducible refine (galoisref23_Check.calls kj3 a0_0 _ _ l0_1 t237 _ ?side1 ?side2 A23.out).mono ?_); (case side1 => repeat (first | exact (Kd.C_below HR0_1.out HB.out) | (with_reducible refine Kd.C_alloc ?_ _) | (with_reducible refine Kd.C_drewN ?_ _) | (with_reducible refine Kd.C_drew ?_))); (case side2 => exact HC0_1.out); rintro e w130 ⟨rfl, hb⟩; refine ⟨_, rfl, ?_⟩; have n0_ := Aside0.mk (Kd.R_below (by (with_reducible repeat (first | apply Kd.R_alloc | apply Kd.R_drewN | apply Kd.R_drew)); exact HO235.out) hb); have n1_ := Aside0.mk (blk_below (g := gb225) (o := .cells #[.int .i64 a0_0, .slice A0_1 l0_1.length c0_1] 24 (0, 0)) (by (with_reducible repeat (first | refine blk_drewN ?_ _ | refine blk_drew ?_ | refine blk_alloc ?_ _)); exact BK225.out) hb); have n2_ := Aside0.mk (below_step (by repeat (first | (with_reducible first | exact HB.out | apply below_alloc | apply pw_below_drewN | apply below_drew1 | refine below_set ?_ GE225.out) | exact HB.out)) hb); clear HO235; clear BK225; clear HB; have HO235 := n0_; have BK225 := n1_; have HB := n2_; clear n0_ n1_ n2_; (try clear hb); (try clear hb2); (try clear hk); (try clear hi); obtain ⟨Ao131, co131, eo131⟩ := Kd.R_slice HO235.out; subst eo131))
                      go_ret
                      exact ⟨by first | rfl | (simp [errW_none, errW_some] <;> rfl) | (simp [*, errW_none, errW_some] <;> rfl), by repeat (first | (with_reducible first | exact HB.out | apply below_alloc | apply pw_below_drewN | apply below_drew1 | refine below_set ?_ GE225.out) | exact HB.out)⟩
                · rw [if_neg c112] at H
                  have c112b0 : (t232 == t237) = false := beq_eq_false_iff_ne.mpr c112
                  have c112b1 : (t232 != t237) = true := bne_iff_ne.mpr c112
                  obtain rfl := Option.some.inj H
                  have hcz132_0 : wc.cell? ⟨gb225, 0, none⟩ = some (.int .i64 a0_0) := (blk_cell BK225.out 0).trans rfl
                  have hcz132_1 : wc.cell? ⟨gb225, 1, none⟩ = some (.slice A0_1 l0_1.length c0_1) := (blk_cell BK225.out 1).trans rfl
                  have hfz132_0 := blk_frozen BK225.out 0
                  have hfz132_1 := blk_frozen BK225.out 1
                  as_aux_lemma =>
                    go_wp2_with (first | ((with_reducible refine gate_callee (f := 24) rfl ?_); refine goesL_ (some 32) rfl rfl Try.func24 (by kernel_rfl) rfl #[.agg #[.int .i64 a0_0, .slice A0_1 l0_1.length c0_1], .slice A1 l1.length c1] rfl (by (try simp only [List.map_toArray, List.map_cons, List.map_nil]); first | done | rfl | (simp only [List.length_drop, List.length_take]; rfl)) ?_; (with_reducible refine (permgroup_Contains.calls kj3 a0_0 _ _ l0_1 _ _ l1 false t230 _ ?side1 ?side2 ?side3 ?side4 A20.out).mono ?_); (case side1 => repeat (first | exact (Kd.C_below HR0_1.out HB.out) | (with_reducible refine Kd.C_alloc ?_ _) | (with_reducible refine Kd.C_drewN ?_ _) | (with_reducible refine Kd.C_drew ?_))); (case side2 => exact HC0_1.out); (case side3 => repeat (first | exact (Kd.C_below HR1.out HB.out) | (with_reducible refine Kd.C_alloc ?_ _) | (with_reducible refine Kd.C_drewN ?_ _) | (with_reducible refine Kd.C_drew ?_))); (case side4 => exact HC1.out); rintro e w133 ⟨rfl, hb⟩; refine ⟨_, rfl, ?_⟩; have n0_ := Aside0.mk (blk_below (g := gb225) (o := .cells #[.int .i64 a0_0, .slice A0_1 l0_1.length c0_1] 24 (0, 0)) (by (with_reducible repeat (first | refine blk_drewN ?_ _ | refine blk_drew ?_ | refine blk_alloc ?_ _)); exact BK225.out) hb); have n1_ := Aside0.mk (below_step (by repeat (first | (with_reducible first | exact HB.out | apply below_alloc | apply pw_below_drewN | apply below_drew1 | refine below_set ?_ GE225.out) | exact HB.out)) hb); clear BK225; clear HB; have BK225 := n0_; have HB := n1_; clear n0_ n1_; (try clear hb); (try clear hb2); (try clear hk); (try clear hi); have hcz134_0 : w133.cell? ⟨gb225, 0, none⟩ = some (.int .i64 a0_0) := (blk_cell BK225.out 0).trans rfl; have hcz134_1 : w133.cell? ⟨gb225, 1, none⟩ = some (.slice A0_1 l0_1.length c0_1) := (blk_cell BK225.out 1).trans rfl; have hfz134_0 := blk_frozen BK225.out 0; have hfz134_1 := blk_frozen BK225.out 1) | ((with_reducible refine gate_callee (f := 25) rfl ?_); refine goesL_ (some 38) rfl rfl Try.func25 (by kernel_rfl) rfl #[.agg #[.int .i64 a0_0, .slice A0_1 l0_1.length c0_1], .slice A1 l1.length c1] rfl (by (try simp only [List.map_toArray, List.map_cons, List.map_nil]); first | done | rfl | (simp only [List.length_drop, List.length_take]; rfl)) ?_; (with_reducible refine (permgroup_Index.calls kj3 a0_0 _ _ l0_1 _ _ l1 t231 t232 _ ?side1 ?side2 ?side3 ?side4 A21.out).mono ?_); (case side1 => repeat (first | exact (Kd.C_below HR0_1.out HB.out) | (with_reducible refine Kd.C_alloc ?_ _) | (with_reducible refine Kd.C_drewN ?_ _) | (with_reducible refine Kd.C_drew ?_))); (case side2 => exact HC0_1.out); (case side3 => repeat (first | exact (Kd.C_below HR1.out HB.out) | (with_reducible refine Kd.C_alloc ?_ _) | (with_reducible refine Kd.C_drewN ?_ _) | (with_reducible refine Kd.C_drew ?_))); (case side4 => exact HC1.out); rintro e w135 ⟨rfl, hb⟩; refine ⟨_, rfl, ?_⟩; have n0_ := Aside0.mk (blk_below (g := gb225) (o := .cells #[.int .i64 a0_0, .slice A0_1 l0_1.length c0_1] 24 (0, 0)) (by (with_reducible repeat (first | refine blk_drewN ?_ _ | refine blk_drew ?_ | refine blk_alloc ?_ _)); exact BK225.out) hb); have n1_ := Aside0.mk (below_step (by repeat (first | (with_reducible first | exact HB.out | apply below_alloc | apply pw_below_drewN | apply below_drew1 | refine below_set ?_ GE225.out) | exact HB.out)) hb); clear BK225; clear HB; have BK225 := n0_; have HB := n1_; clear n0_ n1_; (try clear hb); (try clear hb2); (try clear hk); (try clear hi); have hcz136_0 : w135.cell? ⟨gb225, 0, none⟩ = some (.int .i64 a0_0) := (blk_cell BK225.out 0).trans rfl; have hcz136_1 : w135.cell? ⟨gb225, 1, none⟩ = some (.slice A0_1 l0_1.length c0_1) := (blk_cell BK225.out 1).trans rfl; have hfz136_0 := blk_frozen BK225.out 0; have hfz136_1 := blk_frozen BK225.out 1) | ((with_reducible refine gate_callee (f := 26) rfl ?_); refine goesL_ (some 44) rfl rfl Try.func26 (by kernel_rfl) rfl #[.agg #[.int .i64 a0_0, .slice A0_1 l0_1.length c0_1], .int .i64 a2] rfl (by (try simp only [List.map_toArray, List.map_cons, List.map_nil]); first | done | rfl | (simp only [List.length_drop, List.length_take]; rfl)) ?_; (with_reducible refine (permgroup_Element.calls kj3 a0_0 _ _ l0_1 a2 t233 t236 _ ?side1 ?side2 A22.out).mono ?_); (case side1 => repeat (first | exact (Kd.C_below HR0_1.out HB.out) | (with_reducible refine Kd.C_alloc ?_ _) | (with_reducible refine Kd.C_drewN ?_ _) | (with_reducible refine Kd.C_drew ?_))); (case side2 => exact HC0_1.out); rintro e w137 ⟨v234, rfl, ho0, hb⟩; refine ⟨_, rfl, ?_⟩; have n0_ := Aside0.mk (Kd.R_lower ho0 (below_size (by repeat (first | (with_reducible first | exact HB.out | apply below_alloc | apply pw_below_drewN | apply below_drew1 | refine below_set ?_ GE225.out) | exact HB.out)))); have n1_ := Aside0.mk (blk_below (g := gb225) (o := .cells #[.int .i64 a0_0, .slice A0_1 l0_1.length c0_1] 24 (0, 0)) (by (with_reducible repeat (first | refine blk_drewN ?_ _ | refine blk_drew ?_ | refine blk_alloc ?_ _)); exact BK225.out) hb); have n2_ := Aside0.mk (below_step (by repeat (first | (with_reducible first | exact HB.out | apply below_alloc | apply pw_below_drewN | apply below_drew1 | refine below_set ?_ GE225.out) | exact HB.out)) hb); clear BK225; clear HB; have HO235 := n0_; have BK225 := n1_; have HB := n2_; clear n0_ n1_ n2_; (try clear hb); (try clear hb2); (try clear hk); (try clear hi); (try clear ho0); have hcz138_0 : w137.cell? ⟨gb225, 0, none⟩ = some (.int .i64 a0_0) := (blk_cell BK225.out 0).trans rfl; have hcz138_1 : w137.cell? ⟨gb225, 1, none⟩ = some (.slice A0_1 l0_1.length c0_1) := (blk_cell BK225.out 1).trans rfl; have hfz138_0 := blk_frozen BK225.out 0; have hfz138_1 := blk_frozen BK225.out 1) | ((with_reducible refine gate_callee (f := 11) rfl ?_); refine goesL_ (some 48) rfl rfl Try.func11 (by kernel_rfl) rfl #[.agg #[.int .i64 a0_0, .slice A0_1 l0_1.length c0_1]] rfl (by (try simp only [List.map_toArray, List.map_cons, List.map_nil]); first | done | rfl | (simp only [List.length_drop, List.length_take]; rfl)) ?_; (with_reducible refine (galoisref23_Check.calls kj3 a0_0 _ _ l0_1 t237 _ ?side1 ?side2 A23.out).mono ?_); (case side1 => repeat (first | exact (Kd.C_below HR0_1.out HB.out) | (with_reducible refine Kd.C_alloc ?_ _) | (with_reducible refine Kd.C_drewN ?_ _) | (with_reducible refine Kd.C_drew ?_))); (case side2 => exact HC0_1.out); rintro e w139 ⟨rfl, hb⟩; refine ⟨_, rfl, ?_⟩; have n0_ := Aside0.mk (Kd.R_below (by (with_reducible repeat (first | apply Kd.R_alloc | apply Kd.R_drewN | apply Kd.R_drew)); exact HO235.out) hb); have n1_ := Aside0.mk (blk_below (g := gb225) (o := .cells #[.int .i64 a0_0, .slice A0_1 l0_1.length c0_1] 24 (0, 0)) (by (with_reducible repeat (first | refine blk_drewN ?_ _ | refine blk_drew ?_ | refine blk_alloc ?_ _)); exact BK225.out) hb); have n2_ := Aside0.mk (below_step (by repeat (first | (with_reducible first | exact HB.out | apply below_alloc | apply pw_below_drewN | apply below_drew1 | refine below_set ?_ GE225.out) | exact HB.out)) hb); clear HO235; clear BK225; clear HB; have HO235 := n0_; have BK225 := n1_; have HB := n2_; clear n0_ n1_ n2_; (try clear hb); (try clear hb2); (try clear hk); (try clear hi)))
                    go_ret
                    exact ⟨by first | rfl | (simp [errW_none, errW_some] <;> rfl) | (simp [*, errW_none, errW_some] <;> rfl), by repeat (first | (with_reducible first | exact HB.out | apply below_alloc | apply pw_below_drewN | apply below_drew1 | refine below_set ?_ GE225.out) | exact HB.out)⟩
              · rw [if_neg c111] at H
                have c111b0 : (t231 == 0) = false := beq_eq_false_iff_ne.mpr c111
                have c111b1 : (t231 != 0) = true := bne_iff_ne.mpr c111
                obtain rfl := Option.some.inj H
                have hcz140_0 : wc.cell? ⟨gb225, 0, none⟩ = some (.int .i64 a0_0) := (blk_cell BK225.out 0).trans rfl
                have hcz140_1 : wc.cell? ⟨gb225, 1, none⟩ = some (.slice A0_1 l0_1.length c0_1) := (blk_cell BK225.out 1).trans rfl
                have hfz140_0 := blk_frozen BK225.out 0
                have hfz140_1 := blk_frozen BK225.out 1
                as_aux_lemma =>
                  go_wp2_with (first | ((with_reducible refine gate_callee (f := 24) rfl ?_); refine goesL_ (some 32) rfl rfl Try.func24 (by kernel_rfl) rfl #[.agg #[.int .i64 a0_0, .slice A0_1 l0_1.length c0_1], .slice A1 l1.length c1] rfl (by (try simp only [List.map_toArray, List.map_cons, List.map_nil]); first | done | rfl | (simp only [List.length_drop, List.length_take]; rfl)) ?_; (with_reducible refine (permgroup_Contains.calls kj3 a0_0 _ _ l0_1 _ _ l1 false t230 _ ?side1 ?side2 ?side3 ?side4 A20.out).mono ?_); (case side1 => repeat (first | exact (Kd.C_below HR0_1.out HB.out) | (with_reducible refine Kd.C_alloc ?_ _) | (with_reducible refine Kd.C_drewN ?_ _) | (with_reducible refine Kd.C_drew ?_))); (case side2 => exact HC0_1.out); (case side3 => repeat (first | exact (Kd.C_below HR1.out HB.out) | (with_reducible refine Kd.C_alloc ?_ _) | (with_reducible refine Kd.C_drewN ?_ _) | (with_reducible refine Kd.C_drew ?_))); (case side4 => exact HC1.out); rintro e w141 ⟨rfl, hb⟩; refine ⟨_, rfl, ?_⟩; have n0_ := Aside0.mk (blk_below (g := gb225) (o := .cells #[.int .i64 a0_0, .slice A0_1 l0_1.length c0_1] 24 (0, 0)) (by (with_reducible repeat (first | refine blk_drewN ?_ _ | refine blk_drew ?_ | refine blk_alloc ?_ _)); exact BK225.out) hb); have n1_ := Aside0.mk (below_step (by repeat (first | (with_reducible first | exact HB.out | apply below_alloc | apply pw_below_drewN | apply below_drew1 | refine below_set ?_ GE225.out) | exact HB.out)) hb); clear BK225; clear HB; have BK225 := n0_; have HB := n1_; clear n0_ n1_; (try clear hb); (try clear hb2); (try clear hk); (try clear hi); have hcz142_0 : w141.cell? ⟨gb225, 0, none⟩ = some (.int .i64 a0_0) := (blk_cell BK225.out 0).trans rfl; have hcz142_1 : w141.cell? ⟨gb225, 1, none⟩ = some (.slice A0_1 l0_1.length c0_1) := (blk_cell BK225.out 1).trans rfl; have hfz142_0 := blk_frozen BK225.out 0; have hfz142_1 := blk_frozen BK225.out 1) | ((with_reducible refine gate_callee (f := 25) rfl ?_); refine goesL_ (some 38) rfl rfl Try.func25 (by kernel_rfl) rfl #[.agg #[.int .i64 a0_0, .slice A0_1 l0_1.length c0_1], .slice A1 l1.length c1] rfl (by (try simp only [List.map_toArray, List.map_cons, List.map_nil]); first | done | rfl | (simp only [List.length_drop, List.length_take]; rfl)) ?_; (with_reducible refine (permgroup_Index.calls kj3 a0_0 _ _ l0_1 _ _ l1 t231 t232 _ ?side1 ?side2 ?side3 ?side4 A21.out).mono ?_); (case side1 => repeat (first | exact (Kd.C_below HR0_1.out HB.out) | (with_reducible refine Kd.C_alloc ?_ _) | (with_reducible refine Kd.C_drewN ?_ _) | (with_reducible refine Kd.C_drew ?_))); (case side2 => exact HC0_1.out); (case side3 => repeat (first | exact (Kd.C_below HR1.out HB.out) | (with_reducible refine Kd.C_alloc ?_ _) | (with_reducible refine Kd.C_drewN ?_ _) | (with_reducible refine Kd.C_drew ?_))); (case side4 => exact HC1.out); rintro e w143 ⟨rfl, hb⟩; refine ⟨_, rfl, ?_⟩; have n0_ := Aside0.mk (blk_below (g := gb225) (o := .cells #[.int .i64 a0_0, .slice A0_1 l0_1.length c0_1] 24 (0, 0)) (by (with_reducible repeat (first | refine blk_drewN ?_ _ | refine blk_drew ?_ | refine blk_alloc ?_ _)); exact BK225.out) hb); have n1_ := Aside0.mk (below_step (by repeat (first | (with_reducible first | exact HB.out | apply below_alloc | apply pw_below_drewN | apply below_drew1 | refine below_set ?_ GE225.out) | exact HB.out)) hb); clear BK225; clear HB; have BK225 := n0_; have HB := n1_; clear n0_ n1_; (try clear hb); (try clear hb2); (try clear hk); (try clear hi); have hcz144_0 : w143.cell? ⟨gb225, 0, none⟩ = some (.int .i64 a0_0) := (blk_cell BK225.out 0).trans rfl; have hcz144_1 : w143.cell? ⟨gb225, 1, none⟩ = some (.slice A0_1 l0_1.length c0_1) := (blk_cell BK225.out 1).trans rfl; have hfz144_0 := blk_frozen BK225.out 0; have hfz144_1 := blk_frozen BK225.out 1) | ((with_reducible refine gate_callee (f := 26) rfl ?_); refine goesL_ (some 44) rfl rfl Try.func26 (by kernel_rfl) rfl #[.agg #[.int .i64 a0_0, .slice A0_1 l0_1.length c0_1], .int .i64 a2] rfl (by (try simp only [List.map_toArray, List.map_cons, List.map_nil]); first | done | rfl | (simp only [List.length_drop, List.length_take]; rfl)) ?_; (with_reducible refine (permgroup_Element.calls kj3 a0_0 _ _ l0_1 a2 t233 t236 _ ?side1 ?side2 A22.out).mono ?_); (case side1 => repeat (first | exact (Kd.C_below HR0_1.out HB.out) | (with_reducible refine Kd.C_alloc ?_ _) | (with_reducible refine Kd.C_drewN ?_ _) | (with_reducible refine Kd.C_drew ?_))); (case side2 => exact HC0_1.out); rintro e w145 ⟨v234, rfl, ho0, hb⟩; refine ⟨_, rfl, ?_⟩; have n0_ := Aside0.mk (Kd.R_lower ho0 (below_size (by repeat (first | (with_reducible first | exact HB.out | apply below_alloc | apply pw_below_drewN | apply below_drew1 | refine below_set ?_ GE225.out) | exact HB.out)))); have n1_ := Aside0.mk (blk_below (g := gb225) (o := .cells #[.int .i64 a0_0, .slice A0_1 l0_1.length c0_1] 24 (0, 0)) (by (with_reducible repeat (first | refine blk_drewN ?_ _ | refine blk_drew ?_ | refine blk_alloc ?_ _)); exact BK225.out) hb); have n2_ := Aside0.mk (below_step (by repeat (first | (with_reducible first | exact HB.out | apply below_alloc | apply pw_below_drewN | apply below_drew1 | refine below_set ?_ GE225.out) | exact HB.out)) hb); clear BK225; clear HB; have HO235 := n0_; have BK225 := n1_; have HB := n2_; clear n0_ n1_ n2_; (try clear hb); (try clear hb2); (try clear hk); (try clear hi); (try clear ho0); have hcz146_0 : w145.cell? ⟨gb225, 0, none⟩ = some (.int .i64 a0_0) := (blk_cell BK225.out 0).trans rfl; have hcz146_1 : w145.cell? ⟨gb225, 1, none⟩ = some (.slice A0_1 l0_1.length c0_1) := (blk_cell BK225.out 1).trans rfl; have hfz146_0 := blk_frozen BK225.out 0; have hfz146_1 := blk_frozen BK225.out 1) | ((with_reducible refine gate_callee (f := 11) rfl ?_); refine goesL_ (some 48) rfl rfl Try.func11 (by kernel_rfl) rfl #[.agg #[.int .i64 a0_0, .slice A0_1 l0_1.length c0_1]] rfl (by (try simp only [List.map_toArray, List.map_cons, List.map_nil]); first | done | rfl | (simp only [List.length_drop, List.length_take]; rfl)) ?_; (with_reducible refine (galoisref23_Check.calls kj3 a0_0 _ _ l0_1 t237 _ ?side1 ?side2 A23.out).mono ?_); (case side1 => repeat (first | exact (Kd.C_below HR0_1.out HB.out) | (with_reducible refine Kd.C_alloc ?_ _) | (with_reducible refine Kd.C_drewN ?_ _) | (with_reducible refine Kd.C_drew ?_))); (case side2 => exact HC0_1.out); rintro e w147 ⟨rfl, hb⟩; refine ⟨_, rfl, ?_⟩; have n0_ := Aside0.mk (Kd.R_below (by (with_reducible repeat (first | apply Kd.R_alloc | apply Kd.R_drewN | apply Kd.R_drew)); exact HO235.out) hb); have n1_ := Aside0.mk (blk_below (g := gb225) (o := .cells #[.int .i64 a0_0, .slice A0_1 l0_1.length c0_1] 24 (0, 0)) (by (with_reducible repeat (first | refine blk_drewN ?_ _ | refine blk_drew ?_ | refine blk_alloc ?_ _)); exact BK225.out) hb); have n2_ := Aside0.mk (below_step (by repeat (first | (with_reducible first | exact HB.out | apply below_alloc | apply pw_below_drewN | apply below_drew1 | refine below_set ?_ GE225.out) | exact HB.out)) hb); clear HO235; clear BK225; clear HB; have HO235 := n0_; have BK225 := n1_; have HB := n2_; clear n0_ n1_ n2_; (try clear hb); (try clear hb2); (try clear hk); (try clear hi)))
                  go_ret
                  exact ⟨by first | rfl | (simp [errW_none, errW_some] <;> rfl) | (simp [*, errW_none, errW_some] <;> rfl), by repeat (first | (with_reducible first | exact HB.out | apply below_alloc | apply pw_below_drewN | apply below_drew1 | refine below_set ?_ GE225.out) | exact HB.out)⟩
            · rw [if_neg c110] at H
              have c110b0 : (t230 == t237) = false := beq_eq_false_iff_ne.mpr c110
              have c110b1 : (t230 != t237) = true := bne_iff_ne.mpr c110
              obtain rfl := Option.some.inj H
              have hcz148_0 : wc.cell? ⟨gb225, 0, none⟩ = some (.int .i64 a0_0) := (blk_cell BK225.out 0).trans rfl
              have hcz148_1 : wc.cell? ⟨gb225, 1, none⟩ = some (.slice A0_1 l0_1.length c0_1) := (blk_cell BK225.out 1).trans rfl
              have hfz148_0 := blk_frozen BK225.out 0
              have hfz148_1 := blk_frozen BK225.out 1
              as_aux_lemma =>
                go_wp2_with (first | ((with_reducible refine gate_callee (f := 24) rfl ?_); refine goesL_ (some 32) rfl rfl Try.func24 (by kernel_rfl) rfl #[.agg #[.int .i64 a0_0, .slice A0_1 l0_1.length c0_1], .slice A1 l1.length c1] rfl (by (try simp only [List.map_toArray, List.map_cons, List.map_nil]); first | done | rfl | (simp only [List.length_drop, List.length_take]; rfl)) ?_; (with_reducible refine (permgroup_Contains.calls kj3 a0_0 _ _ l0_1 _ _ l1 false t230 _ ?side1 ?side2 ?side3 ?side4 A20.out).mono ?_); (case side1 => repeat (first | exact (Kd.C_below HR0_1.out HB.out) | (with_reducible refine Kd.C_alloc ?_ _) | (with_reducible refine Kd.C_drewN ?_ _) | (with_reducible refine Kd.C_drew ?_))); (case side2 => exact HC0_1.out); (case side3 => repeat (first | exact (Kd.C_below HR1.out HB.out) | (with_reducible refine Kd.C_alloc ?_ _) | (with_reducible refine Kd.C_drewN ?_ _) | (with_reducible refine Kd.C_drew ?_))); (case side4 => exact HC1.out); rintro e w149 ⟨rfl, hb⟩; refine ⟨_, rfl, ?_⟩; have n0_ := Aside0.mk (blk_below (g := gb225) (o := .cells #[.int .i64 a0_0, .slice A0_1 l0_1.length c0_1] 24 (0, 0)) (by (with_reducible repeat (first | refine blk_drewN ?_ _ | refine blk_drew ?_ | refine blk_alloc ?_ _)); exact BK225.out) hb); have n1_ := Aside0.mk (below_step (by repeat (first | (with_reducible first | exact HB.out | apply below_alloc | apply pw_below_drewN | apply below_drew1 | refine below_set ?_ GE225.out) | exact HB.out)) hb); clear BK225; clear HB; have BK225 := n0_; have HB := n1_; clear n0_ n1_; (try clear hb); (try clear hb2); (try clear hk); (try clear hi); have hcz150_0 : w149.cell? ⟨gb225, 0, none⟩ = some (.int .i64 a0_0) := (blk_cell BK225.out 0).trans rfl; have hcz150_1 : w149.cell? ⟨gb225, 1, none⟩ = some (.slice A0_1 l0_1.length c0_1) := (blk_cell BK225.out 1).trans rfl; have hfz150_0 := blk_frozen BK225.out 0; have hfz150_1 := blk_frozen BK225.out 1) | ((with_reducible refine gate_callee (f := 25) rfl ?_); refine goesL_ (some 38) rfl rfl Try.func25 (by kernel_rfl) rfl #[.agg #[.int .i64 a0_0, .slice A0_1 l0_1.length c0_1], .slice A1 l1.length c1] rfl (by (try simp only [List.map_toArray, List.map_cons, List.map_nil]); first | done | rfl | (simp only [List.length_drop, List.length_take]; rfl)) ?_; (with_reducible refine (permgroup_Index.calls kj3 a0_0 _ _ l0_1 _ _ l1 t231 t232 _ ?side1 ?side2 ?side3 ?side4 A21.out).mono ?_); (case side1 => repeat (first | exact (Kd.C_below HR0_1.out HB.out) | (with_reducible refine Kd.C_alloc ?_ _) | (with_reducible refine Kd.C_drewN ?_ _) | (with_reducible refine Kd.C_drew ?_))); (case side2 => exact HC0_1.out); (case side3 => repeat (first | exact (Kd.C_below HR1.out HB.out) | (with_reducible refine Kd.C_alloc ?_ _) | (with_reducible refine Kd.C_drewN ?_ _) | (with_reducible refine Kd.C_drew ?_))); (case side4 => exact HC1.out); rintro e w151 ⟨rfl, hb⟩; refine ⟨_, rfl, ?_⟩; have n0_ := Aside0.mk (blk_below (g := gb225) (o := .cells #[.int .i64 a0_0, .slice A0_1 l0_1.length c0_1] 24 (0, 0)) (by (with_reducible repeat (first | refine blk_drewN ?_ _ | refine blk_drew ?_ | refine blk_alloc ?_ _)); exact BK225.out) hb); have n1_ := Aside0.mk (below_step (by repeat (first | (with_reducible first | exact HB.out | apply below_alloc | apply pw_below_drewN | apply below_drew1 | refine below_set ?_ GE225.out) | exact HB.out)) hb); clear BK225; clear HB; have BK225 := n0_; have HB := n1_; clear n0_ n1_; (try clear hb); (try clear hb2); (try clear hk); (try clear hi); have hcz152_0 : w151.cell? ⟨gb225, 0, none⟩ = some (.int .i64 a0_0) := (blk_cell BK225.out 0).trans rfl; have hcz152_1 : w151.cell? ⟨gb225, 1, none⟩ = some (.slice A0_1 l0_1.length c0_1) := (blk_cell BK225.out 1).trans rfl; have hfz152_0 := blk_frozen BK225.out 0; have hfz152_1 := blk_frozen BK225.out 1) | ((with_reducible refine gate_callee (f := 26) rfl ?_); refine goesL_ (some 44) rfl rfl Try.func26 (by kernel_rfl) rfl #[.agg #[.int .i64 a0_0, .slice A0_1 l0_1.length c0_1], .int .i64 a2] rfl (by (try simp only [List.map_toArray, List.map_cons, List.map_nil]); first | done | rfl | (simp only [List.length_drop, List.length_take]; rfl)) ?_; (with_reducible refine (permgroup_Element.calls kj3 a0_0 _ _ l0_1 a2 t233 t236 _ ?side1 ?side2 A22.out).mono ?_); (case side1 => repeat (first | exact (Kd.C_below HR0_1.out HB.out) | (with_reducible refine Kd.C_alloc ?_ _) | (with_reducible refine Kd.C_drewN ?_ _) | (with_reducible refine Kd.C_drew ?_))); (case side2 => exact HC0_1.out); rintro e w153 ⟨v234, rfl, ho0, hb⟩; refine ⟨_, rfl, ?_⟩; have n0_ := Aside0.mk (Kd.R_lower ho0 (below_size (by repeat (first | (with_reducible first | exact HB.out | apply below_alloc | apply pw_below_drewN | apply below_drew1 | refine below_set ?_ GE225.out) | exact HB.out)))); have n1_ := Aside0.mk (blk_below (g := gb225) (o := .cells #[.int .i64 a0_0, .slice A0_1 l0_1.length c0_1] 24 (0, 0)) (by (with_reducible repeat (first | refine blk_drewN ?_ _ | refine blk_drew ?_ | refine blk_alloc ?_ _)); exact BK225.out) hb); have n2_ := Aside0.mk (below_step (by repeat (first | (with_reducible first | exact HB.out | apply below_alloc | apply pw_below_drewN | apply below_drew1 | refine below_set ?_ GE225.out) | exact HB.out)) hb); clear BK225; clear HB; have HO235 := n0_; have BK225 := n1_; have HB := n2_; clear n0_ n1_ n2_; (try clear hb); (try clear hb2); (try clear hk); (try clear hi); (try clear ho0); have hcz154_0 : w153.cell? ⟨gb225, 0, none⟩ = some (.int .i64 a0_0) := (blk_cell BK225.out 0).trans rfl; have hcz154_1 : w153.cell? ⟨gb225, 1, none⟩ = some (.slice A0_1 l0_1.length c0_1) := (blk_cell BK225.out 1).trans rfl; have hfz154_0 := blk_frozen BK225.out 0; have hfz154_1 := blk_frozen BK225.out 1) | ((with_reducible refine gate_callee (f := 11) rfl ?_); refine goesL_ (some 48) rfl rfl Try.func11 (by kernel_rfl) rfl #[.agg #[.int .i64 a0_0, .slice A0_1 l0_1.length c0_1]] rfl (by (try simp only [List.map_toArray, List.map_cons, List.map_nil]); first | done | rfl | (simp only [List.length_drop, List.length_take]; rfl)) ?_; (with_reducible refine (galoisref23_Check.calls kj3 a0_0 _ _ l0_1 t237 _ ?side1 ?side2 A23.out).mono ?_); (case side1 => repeat (first | exact (Kd.C_below HR0_1.out HB.out) | (with_reducible refine Kd.C_alloc ?_ _) | (with_reducible refine Kd.C_drewN ?_ _) | (with_reducible refine Kd.C_drew ?_))); (case side2 => exact HC0_1.out); rintro e w155 ⟨rfl, hb⟩; refine ⟨_, rfl, ?_⟩; have n0_ := Aside0.mk (Kd.R_below (by (with_reducible repeat (first | apply Kd.R_alloc | apply Kd.R_drewN | apply Kd.R_drew)); exact HO235.out) hb); have n1_ := Aside0.mk (blk_below (g := gb225) (o := .cells #[.int .i64 a0_0, .slice A0_1 l0_1.length c0_1] 24 (0, 0)) (by (with_reducible repeat (first | refine blk_drewN ?_ _ | refine blk_drew ?_ | refine blk_alloc ?_ _)); exact BK225.out) hb); have n2_ := Aside0.mk (below_step (by repeat (first | (with_reducible first | exact HB.out | apply below_alloc | apply pw_below_drewN | apply below_drew1 | refine below_set ?_ GE225.out) | exact HB.out)) hb); clear HO235; clear BK225; clear HB; have HO235 := n0_; have BK225 := n1_; have HB := n2_; clear n0_ n1_ n2_; (try clear hb); (try clear hb2); (try clear hk); (try clear hi)))
                go_ret
                exact ⟨by first | rfl | (simp [errW_none, errW_some] <;> rfl) | (simp [*, errW_none, errW_some] <;> rfl), by repeat (first | (with_reducible first | exact HB.out | apply below_alloc | apply pw_below_drewN | apply below_drew1 | refine below_set ?_ GE225.out) | exact HB.out)⟩
def galoislaw23_PermgroupMembers.Pure : Prop := ∀ (a0_0 : Int) (l0_1 : List (List Int)) (l1 : List Int) (a2 : Int), (Lit.int .i64 a0_0).wf = true → l0_1.length ≤ maxLen → (∀ x ∈ l0_1, (x.length ≤ maxLen ∧ ∀ y0 ∈ x, (Lit.int .i64 y0).wf = true)) → l1.length ≤ maxLen → (∀ x ∈ l1, (Lit.int .i64 x).wf = true) → (Lit.int .i64 a2).wf = true → ∃ k, galoislaw23_PermgroupMembers.f k a0_0 l0_1 l1 a2 = some true
theorem galoislaw23_PermgroupMembers.walk (P : galoislaw23_PermgroupMembers.Pure) (a0_0 : Int) (A0_1 : Option Addr) (c0_1 : Nat) (l0_1 : List (List Int)) (A1 : Option Addr) (c1 : Nat) (l1 : List Int) (a2 : Int) (w : World) (w0_0 : (Lit.int .i64 a0_0).wf = true) (hr0_1 : Kd.C (Kd.slice 3 (Kd.int .i64)) w A0_1 l0_1.length l0_1) (hc0_1 : l0_1.length ≤ c0_1) (hm0_1 : l0_1.length ≤ maxLen) (hw0_1 : ∀ x ∈ l0_1, (x.length ≤ maxLen ∧ ∀ y0 ∈ x, (Lit.int .i64 y0).wf = true)) (hr1 : Kd.C (Kd.int .i64) w A1 l1.length l1) (hc1 : l1.length ≤ c1) (hm1 : l1.length ≤ maxLen) (hw1 : ∀ x ∈ l1, (Lit.int .i64 x).wf = true) (w2 : (Lit.int .i64 a2).wf = true) :
    Calls Try.prog 4 #[.agg #[.int .i64 a0_0, .slice A0_1 l0_1.length c0_1], .slice A1 l1.length c1, .int .i64 a2] w fun e w' => e = .returned (.bool true) ∧ Below w.heap.size w w' := by
  obtain ⟨k, h⟩ := P a0_0 l0_1 l1 a2 w0_0 hm0_1 hw0_1 hm1 hw1 w2
  refine (galoislaw23_PermgroupMembers.calls k a0_0 _ _ l0_1 _ _ l1 a2 true w hr0_1 hc0_1 hr1 hc1 h).mono ?_
  rintro e w' ⟨rfl, hd⟩
  exact ⟨rfl, hd⟩
end Go.Proofs.Ytimlnejchieimaa.PMb
