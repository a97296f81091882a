-- Printed by wip/tools/mk.py of this repo (the kit's print with turns made in memory).
import Derived.Test.YtoaalfpfklchfaaDoorZPermTextsPx0
import Derived.Test.YtoaalfpfklchfaaDoorZPermTextsPx2
import Derived.Test.YtoaalfpfklchfaaDoorZPermTextsPx3
import Derived.Test.YtoaalfpfklchfaaDoorZPermTextsPx4
import Derived.Test.YtoaalfpfklchfaaDoorZPermTextsPx7
import Derived.Test.YtoaalfpfklchfaaDoorZPermTextsPx10
namespace Go.Proofs.YtoaalfpfklchfaaDoor.PPermTexts
open Go.RowKit Go.Proofs.YtoaalfpfklchfaaDoorW.PrintWords Go.Proofs.YtoaalfpfklchfaaDoorW.PrintLast Go.Proofs.YtoaalfpfklchfaaDoorW.PrintMore
attribute [local go_sem] max2_int min2_int max_two min_two max_three min_three max_four min_four   -- for this text's walks alone
set_option linter.unusedVariables false
set_option linter.unusedSimpArgs false

/-! ### galoisref22_Format: function 42 -/
mutual
def galoisref22_Format.l0 : Nat → List (List Int) → ByteArray → Int → Option (ByteArray)
  | 0, _, _, _ => none
  | k + 1, x3, x4, x5 => if x5 < (x3.length : Int) then (if x4.size + 1 ≤ 9223372036854775807 then (galoisref22_Format.l1 k x3 (x4 ++ (⟨#[40]⟩ : ByteArray)) x5 0) else (none)) else (some x4)
def galoisref22_Format.l1 : Nat → List (List Int) → ByteArray → Int → Int → Option (ByteArray)
  | 0, _, _, _, _ => none
  | k + 1, x3, x4, x5, x6 => if 0 ≤ x5 then (if x5 < (x3.length : Int) then (if x6 < ((rd_L1 x3 x5).length : Int) then (if x6 > 0 then (if x4.size + 1 ≤ 9223372036854775807 then (if 0 ≤ x6 then ((galoisref22_Number.f k (rd (rd_L1 x3 x5) x6)).bind fun t336 => (if (x4 ++ (⟨#[32]⟩ : ByteArray)).size + t336.size ≤ 9223372036854775807 then (galoisref22_Format.l1 k x3 ((x4 ++ (⟨#[32]⟩ : ByteArray)) ++ t336) x5 (wrap64 (x6 + 1))) else (none))) else (none)) else (none)) else (if 0 ≤ x6 then ((galoisref22_Number.f k (rd (rd_L1 x3 x5) x6)).bind fun t339 => (if x4.size + t339.size ≤ 9223372036854775807 then (galoisref22_Format.l1 k x3 (x4 ++ t339) x5 (wrap64 (x6 + 1))) else (none))) else (none))) else (if x4.size + 1 ≤ 9223372036854775807 then (galoisref22_Format.l0 k x3 (x4 ++ (⟨#[41]⟩ : ByteArray)) (wrap64 (x5 + 1))) else (none))) else (none)) else (none)
end
def galoisref22_Format.f (k : Nat) (l0 : List Int) : Option (ByteArray) := (galoisref22_Cycles.f k l0).bind fun t330 => (if (t330.length : Int) = 0 then (some (⟨#[40, 41]⟩ : ByteArray)) else (galoisref22_Format.l0 k t330 (⟨#[]⟩ : ByteArray) 0))
theorem galoisref22_Format.mono_l : ∀ k, (∀ y0 y1 y2, LeO (galoisref22_Format.l0 k y0 y1 y2) (galoisref22_Format.l0 (k + 1) y0 y1 y2)) ∧ (∀ y0 y1 y2 y3, LeO (galoisref22_Format.l1 k y0 y1 y2 y3) (galoisref22_Format.l1 (k + 1) y0 y1 y2 y3))
  | 0 => ⟨fun _ _ _ r h => by simp [galoisref22_Format.l0] at h, fun _ _ _ _ r h => by simp [galoisref22_Format.l1] at h⟩
  | k + 1 => by
    obtain ⟨ih0, ih1⟩ := galoisref22_Format.mono_l k
    refine ⟨?_, ?_⟩
    · intro y0 y1 y2
      unfold galoisref22_Format.l0
      repeat' first
      | (with_reducible exact ih0 _ _ _)
      | (with_reducible exact ih1 _ _ _ _)
      | (with_reducible exact galoisref22_Cycles.mono _ _)
      | (with_reducible exact galoisref22_Number.mono _ _)
      | (with_reducible exact LeO.refl _)
      | (with_reducible exact LeO.none _)
      | (with_reducible refine LeO.ite ?_ ?_)
      | (with_reducible refine LeO.bind ?_ (fun _ => ?_))
      | exact ih0 _ _ _
      | exact ih1 _ _ _ _
      | exact galoisref22_Cycles.mono _ _
      | exact galoisref22_Number.mono _ _
      | exact LeO.none _
      | refine LeO.ite ?_ ?_
      | refine LeO.bind ?_ (fun _ => ?_)
    · intro y0 y1 y2 y3
      unfold galoisref22_Format.l1
      repeat' first
      | (with_reducible exact ih0 _ _ _)
      | (with_reducible exact ih1 _ _ _ _)
      | (with_reducible exact galoisref22_Cycles.mono _ _)
      | (with_reducible exact galoisref22_Number.mono _ _)
      | (with_reducible exact LeO.refl _)
      | (with_reducible exact LeO.none _)
      | (with_reducible refine LeO.ite ?_ ?_)
      | (with_reducible refine LeO.bind ?_ (fun _ => ?_))
      | exact ih0 _ _ _
      | exact ih1 _ _ _ _
      | exact galoisref22_Cycles.mono _ _
      | exact galoisref22_Number.mono _ _
      | exact LeO.none _
      | refine LeO.ite ?_ ?_
      | refine LeO.bind ?_ (fun _ => ?_)
theorem galoisref22_Format.mono : ∀ a0 k, LeO (galoisref22_Format.f k a0) (galoisref22_Format.f (k + 1) a0) := by
  intro a0 k
  obtain ⟨ih0, ih1⟩ := galoisref22_Format.mono_l k
  unfold galoisref22_Format.f
  repeat' first
      | (with_reducible exact ih0 _ _ _)
      | (with_reducible exact ih1 _ _ _ _)
      | (with_reducible exact galoisref22_Cycles.mono _ _)
      | (with_reducible exact galoisref22_Number.mono _ _)
      | (with_reducible exact LeO.refl _)
      | (with_reducible exact LeO.none _)
      | (with_reducible refine LeO.ite ?_ ?_)
      | (with_reducible refine LeO.bind ?_ (fun _ => ?_))
      | exact ih0 _ _ _
      | exact ih1 _ _ _ _
      | exact galoisref22_Cycles.mono _ _
      | exact galoisref22_Number.mono _ _
      | exact LeO.none _
      | refine LeO.ite ?_ ?_
      | refine LeO.bind ?_ (fun _ => ?_)
set_option maxHeartbeats 8000000 in
set_option maxRecDepth 100000 in
theorem galoisref22_Format.calls (k : Nat) (A0 : Option Addr) (c0 : Nat) (l0 : List Int) (r : ByteArray) (w : World) (hr0 : Kd.C (Kd.int .i64) w A0 l0.length l0) (hc0 : l0.length ≤ c0) (h : galoisref22_Format.f k l0 = some r) :
    Calls Tryd.prog 42 #[.slice A0 l0.length c0] w fun e w' => e = .returned (.string r) ∧ Below w.heap.size w w' := by
  have HR0 := Aside0.mk hr0
  have HC0 := Aside0.mk hc0
  clear hr0 hc0
  have HB := Aside0.mk (Below.refl w.heap.size w)
  have H : ((galoisref22_Cycles.f k l0).bind fun t330 => (if (t330.length : Int) = 0 then (some (⟨#[40, 41]⟩ : ByteArray)) else (galoisref22_Format.l0 k t330 (⟨#[]⟩ : ByteArray) 0))) = some r := h
  clear h
  replace H := Option.bind_eq_some_iff.mp H
  obtain ⟨t330, A20, H⟩ := H
  replace H : (if (t330.length : Int) = 0 then (some (⟨#[40, 41]⟩ : ByteArray)) else (galoisref22_Format.l0 k t330 (⟨#[]⟩ : ByteArray) 0)) = some r := H
  have A2 := Aside0.mk A20
  clear A20
  by_cases c3 : (t330.length : Int) = 0
  · rw [if_pos c3] at H
    have c3b0 : ((t330.length : Int) == 0) = true := beq_iff_eq.mpr c3
    have c3b1 : ((t330.length : Int) != 0) = false := bne_eq_false_iff_eq.mpr c3
    clear c3
    obtain rfl := Option.some.inj H
    go_enter Tryd.func42, Tryd.ntmps42
    go_wp2_with (first | ((with_reducible refine gate_callee (f := 53) rfl ?_); refine goesL_ (some 8) rfl rfl Tryd.func53 (by kernel_rfl) rfl #[.slice A0 l0.length c0] rfl (by (try simp only [List.map_toArray, List.map_cons, List.map_nil]); first | done | rfl | (simp only [List.length_drop, List.length_take]; rfl)) ?_; (with_reducible refine (galoisref22_Cycles.calls k _ _ l0 t330 _ ?side1 ?side2 A2.out).mono ?_); (case side1 => repeat (first | exact HR0.out | (with_reducible refine Kd.C_alloc ?_ _) | (with_reducible refine Kd.C_drewN ?_ _) | (with_reducible refine Kd.C_drew ?_))); (case side2 => exact HC0.out); rintro e w4 ⟨v331, rfl, ho0, hb⟩; refine ⟨_, rfl, ?_⟩; have n0_ := Aside0.mk (Kd.S_lower ho0 (below_size (by repeat (first | (with_reducible first | exact HB.out | apply below_alloc | apply pw_below_drewN | apply below_drew1) | exact HB.out)))); have n1_ := Aside0.mk (below_step (by repeat (first | (with_reducible first | exact HB.out | apply below_alloc | apply pw_below_drewN | apply below_drew1) | exact HB.out)) hb); clear HB; have HO332 := n0_; have HB := n1_; clear n0_ n1_; (try clear hb); (try clear hb2); (try clear hk); (try clear hi); (try clear ho0); obtain ⟨Ao5, co5, eo5⟩ := Kd.S_slice HO332.out; subst eo5))
    go_ret
    exact ⟨by first | rfl | (simp [errW_none, errW_some] <;> rfl) | (simp [*, errW_none, errW_some] <;> rfl), by repeat (first | (with_reducible first | exact HB.out | apply below_alloc | apply pw_below_drewN | apply below_drew1) | exact HB.out)⟩
  · rw [if_neg c3] at H
    have c3b0 : ((t330.length : Int) == 0) = false := beq_eq_false_iff_ne.mpr c3
    have c3b1 : ((t330.length : Int) != 0) = true := bne_iff_ne.mpr c3
    have c3b2 : ¬ (t330 = []) := fun h_ => c3 (by rw [h_]; rfl)
    have H' := Aside0.mk H
    clear H
    go_enter Tryd.func42, Tryd.ntmps42
    go_wp2_with (first | ((with_reducible refine gate_callee (f := 53) rfl ?_); refine goesL_ (some 8) rfl rfl Tryd.func53 (by kernel_rfl) rfl #[.slice A0 l0.length c0] rfl (by (try simp only [List.map_toArray, List.map_cons, List.map_nil]); first | done | rfl | (simp only [List.length_drop, List.length_take]; rfl)) ?_; (with_reducible refine (galoisref22_Cycles.calls k _ _ l0 t330 _ ?side1 ?side2 A2.out).mono ?_); (case side1 => repeat (first | exact HR0.out | (with_reducible refine Kd.C_alloc ?_ _) | (with_reducible refine Kd.C_drewN ?_ _) | (with_reducible refine Kd.C_drew ?_))); (case side2 => exact HC0.out); rintro e w6 ⟨v331, rfl, ho0, hb⟩; refine ⟨_, rfl, ?_⟩; have n0_ := Aside0.mk (Kd.S_lower ho0 (below_size (by repeat (first | (with_reducible first | exact HB.out | apply below_alloc | apply pw_below_drewN | apply below_drew1) | exact HB.out)))); have n1_ := Aside0.mk (below_step (by repeat (first | (with_reducible first | exact HB.out | apply below_alloc | apply pw_below_drewN | apply below_drew1) | exact HB.out)) hb); clear HB; have HO332 := n0_; have HB := n1_; clear n0_ n1_; (try clear hb); (try clear hb2); (try clear hk); (try clear hi); (try clear ho0); obtain ⟨Ao7, co7, eo7⟩ := Kd.S_slice HO332.out; subst eo7))
    go_loopg [4, 5] k (fun kq v4 v5 w' => ∃ (x4_1 : ByteArray) (x5_1 : Int), v4 = .string x4_1 ∧ v5 = .int .i64 x5_1 ∧ Aside0 (galoisref22_Format.l0 kq t330 x4_1 x5_1 = some r) ∧ Aside0 (kq ≤ k) ∧ Aside0 (Kd.S (Kd.slice 3 (Kd.int .i64)) 22 w' w.heap.size (fun _ => True) (.slice Ao7 t330.length co7) t330) ∧ Aside0 (Below w.heap.size w w'))
    case atStart => exact ⟨((⟨#[]⟩ : ByteArray)), (0), (by first | rfl | (simp; done) | (simp [*]; done)), (by first | rfl | (simp; done) | (simp [*]; done)), H', ⟨Nat.le_refl _⟩, ⟨by (with_reducible repeat (first | apply Kd.S_alloc | apply Kd.S_drewN | apply Kd.S_drew)); exact HO332.out⟩, ⟨by repeat (first | (with_reducible first | exact HB.out | apply below_alloc | apply pw_below_drewN | apply below_drew1) | exact HB.out)⟩⟩
    case round =>
      clear H'
      try clear p2
      try clear c3
      try clear c3b0
      try clear c3b1
      try clear c3b2
      try clear c4
      try clear c5
      obtain ⟨x4_1, x5_1, rfl, rfl, HA, HK1, HO_3, HB⟩ := hrel
      cases gk with
      | zero => exact absurd HA.out (by simp [galoisref22_Format.l0])
      | succ k1 =>
        have H := HA.out
        clear HA
        simp only [galoisref22_Format.l0] at H
        by_cases c8 : x5_1 < (t330.length : Int)
        · rw [if_pos c8] at H
          have c8b0 : decide (x5_1 < (t330.length : Int)) = true := decide_eq_true c8
          clear c8
          by_cases c9 : x4_1.size + 1 ≤ 9223372036854775807
          · rw [if_pos c9] at H
            have c9b0 := eq_true c9
            have c9b1 : decide (x4_1.size + 1 ≤ 9223372036854775807) = true := decide_eq_true c9
            try have c9b2 : (9223372036854775807 < x4_1.size + 1) = False := eq_false (Nat.not_lt.2 c9)
            have H' := Aside0.mk H
            clear H
            go_wp2
            go_loopg [4, 6] k1 (fun kq v4 v6 w' => ∃ (x4_2 : ByteArray) (x6_2 : Int), v4 = .string x4_2 ∧ v6 = .int .i64 x6_2 ∧ Aside0 (galoisref22_Format.l1 kq t330 x4_2 x5_1 x6_2 = some r) ∧ Aside0 (kq ≤ k1) ∧ Aside0 (Kd.S (Kd.slice 3 (Kd.int .i64)) 22 w' w.heap.size (fun _ => True) (.slice Ao7 t330.length co7) t330) ∧ Aside0 (Below w.heap.size w w'))
            case atStart => exact ⟨(x4_1 ++ (⟨#[40]⟩ : ByteArray)), (0), (by first | rfl | (simp; done) | (simp [*]; done)), (by first | rfl | (simp; done) | (simp [*]; done)), H', ⟨Nat.le_refl _⟩, ⟨by (with_reducible repeat (first | apply Kd.S_alloc | apply Kd.S_drewN | apply Kd.S_drew)); exact HO_3.out⟩, ⟨by repeat (first | (with_reducible first | exact HB.out | apply below_alloc | apply pw_below_drewN | apply below_drew1) | exact HB.out)⟩⟩
            case round =>
              clear H'
              try clear p2
              try clear c3
              try clear c3b0
              try clear c3b1
              try clear c3b2
              try clear c4
              try clear c5
              try clear c8
              try clear c8b0
              try clear c9
              try clear c9b0
              try clear c9b1
              try clear c9b2
              try clear p2
              obtain ⟨x4_2, x6_2, rfl, rfl, HA, HK2, HO_3, HB⟩ := hrel
              cases gk with
              | zero => exact absurd HA.out (by simp [galoisref22_Format.l1])
              | succ k2 =>
                have H := HA.out
                clear HA
                simp only [galoisref22_Format.l1] at H
                by_cases c10 : 0 ≤ x5_1
                · rw [if_pos c10] at H
                  have c10b0 : decide (0 ≤ x5_1) = true := decide_eq_true c10
                  clear c10
                  by_cases c11 : x5_1 < (t330.length : Int)
                  · rw [if_pos c11] at H
                    have c11b0 : decide (x5_1 < (t330.length : Int)) = true := decide_eq_true c11
                    clear c11
                    by_cases c12 : x6_2 < ((rd_L1 t330 x5_1).length : Int)
                    · rw [if_pos c12] at H
                      have c12b0 : decide (x6_2 < ((rd_L1 t330 x5_1).length : Int)) = true := decide_eq_true c12
                      clear c12
                      by_cases c13 : x6_2 > 0
                      · rw [if_pos c13] at H
                        have c13b0 : decide (0 < x6_2) = true := decide_eq_true c13
                        clear c13
                        by_cases c14 : x4_2.size + 1 ≤ 9223372036854775807
                        · rw [if_pos c14] at H
                          have c14b0 := eq_true c14
                          have c14b1 : decide (x4_2.size + 1 ≤ 9223372036854775807) = true := decide_eq_true c14
                          try have c14b2 : (9223372036854775807 < x4_2.size + 1) = False := eq_false (Nat.not_lt.2 c14)
                          by_cases c15 : 0 ≤ x6_2
                          · rw [if_pos c15] at H
                            have c15b0 : decide (0 ≤ x6_2) = true := decide_eq_true c15
                            clear c15
                            replace H := Option.bind_eq_some_iff.mp H
                            obtain ⟨t336, A160, H⟩ := H
                            replace H : (if (x4_2 ++ (⟨#[32]⟩ : ByteArray)).size + t336.size ≤ 9223372036854775807 then (galoisref22_Format.l1 k2 t330 ((x4_2 ++ (⟨#[32]⟩ : ByteArray)) ++ t336) x5_1 (wrap64 (x6_2 + 1))) else (none)) = some r := H
                            have A16 := Aside0.mk A160
                            clear A160
                            by_cases c17 : (x4_2 ++ (⟨#[32]⟩ : ByteArray)).size + t336.size ≤ 9223372036854775807
                            · rw [if_pos c17] at H
                              have c17b0 := eq_true c17
                              have c17b1 : decide ((x4_2 ++ (⟨#[32]⟩ : ByteArray)).size + t336.size ≤ 9223372036854775807) = true := decide_eq_true c17
                              try have c17b2 : (9223372036854775807 < (x4_2 ++ (⟨#[32]⟩ : ByteArray)).size + t336.size) = False := eq_false (Nat.not_lt.2 c17)
                              have c17b2d := c17b2
                              try simp only [ByteArray.size_append, show (⟨#[32]⟩ : ByteArray).size = 1 from rfl] at c17b2d
                              have H' := Aside0.mk H
                              clear H
                              have p333 : 0 ≤ (x5_1 : Int) := of_decide_eq_true (by first | (with_reducible assumption) | assumption)
                              have q333 : x5_1 < (t330.length : Int) := of_decide_eq_true (by first | (with_reducible assumption) | assumption)
                              obtain ⟨ad333, A333_0, c333_0, e333, hx333_0, hl333_0, hi333_0⟩ := at_L1 (Kd.S_reads' HO_3.out).2.2 x5_1 p333 q333
                              cases e333
                              obtain ⟨ce333, hce333, hMe333, hcc333⟩ := Kd.S_get HO_3.out [] x5_1 p333 (by first | exact q333 | exact of_decide_eq_true (by first | (with_reducible assumption) | assumption) | (have e_ := (Kd.S_reads' HO_3.out).1; omega))
                              obtain ⟨ve333_0, rfl, ge333_0⟩ := hMe333
                              have hv333_0 := hcc333 0 _ rfl
                              rw [Nat.add_zero, show ((Kd.slice 3 (Kd.int .i64))).sz = 1 from rfl, Nat.mul_one] at hv333_0
                              replace hv333_0 := Option.some.inj (hv333_0.symm.trans hx333_0)
                              rw [hv333_0] at ge333_0
                              have HL333_0 := Aside0.mk (show Kd.R (Kd.int .i64) 3 _ _ _ _ (rd_L1 t330 x5_1) from ge333_0)
                              clear hv333_0 ge333_0
                              clear hcc333 hce333
                              have HR333_0 := Aside0.mk hi333_0
                              have HC333_0 := Aside0.mk hl333_0
                              clear hi333_0 hl333_0
                              replace p333 := eq_true p333
                              replace q333 := eq_true q333
                              have p334 : 0 ≤ (x5_1 : Int) := of_decide_eq_true (by first | (with_reducible assumption) | assumption)
                              have q334 : x5_1 < (t330.length : Int) := of_decide_eq_true (by first | (with_reducible assumption) | assumption)
                              obtain ⟨ad334, A334_0, c334_0, e334, hx334_0, hl334_0, hi334_0⟩ := at_L1 (Kd.S_reads' HO_3.out).2.2 x5_1 p334 q334
                              obtain rfl : ad333 = ad334 := (by injection e334)
                              obtain ⟨ce334, hce334, hMe334, hcc334⟩ := Kd.S_get HO_3.out [] x5_1 p334 (by first | exact q334 | exact of_decide_eq_true (by first | (with_reducible assumption) | assumption) | (have e_ := (Kd.S_reads' HO_3.out).1; omega))
                              obtain ⟨ve334_0, rfl, ge334_0⟩ := hMe334
                              have hv334_0 := hcc334 0 _ rfl
                              rw [Nat.add_zero, show ((Kd.slice 3 (Kd.int .i64))).sz = 1 from rfl, Nat.mul_one] at hv334_0
                              replace hv334_0 := Option.some.inj (hv334_0.symm.trans hx334_0)
                              rw [hv334_0] at ge334_0
                              have HL334_0 := Aside0.mk (show Kd.R (Kd.int .i64) 3 _ _ _ _ (rd_L1 t330 x5_1) from ge334_0)
                              clear hv334_0 ge334_0
                              clear hcc334 hce334
                              have HR334_0 := Aside0.mk hi334_0
                              have HC334_0 := Aside0.mk hl334_0
                              clear hi334_0 hl334_0
                              replace p334 := eq_true p334
                              replace q334 := eq_true q334
                              have ea_ := Option.some.inj (hx333_0.symm.trans hx334_0)
                              injection ea_ with ea_ en_ ec_
                              subst ea_
                              subst ec_
                              clear en_
                              have p335 : 0 ≤ (x6_2 : Int) := of_decide_eq_true (by first | (with_reducible assumption) | assumption)
                              have q335 : x6_2 < ((rd_L1 t330 x5_1).length : Int) := of_decide_eq_true (by first | (with_reducible assumption) | assumption)
                              obtain ⟨ad335, e335, hx335_0⟩ := Kd.at_int (by repeat (first | (with_reducible exact HR334_0.out) | (with_reducible refine Kd.C_alloc ?_ _) | (with_reducible refine Kd.C_drewN ?_ _) | (with_reducible refine Kd.C_drew ?_) | exact HR334_0.out)) x6_2 p335 q335
                              cases e335
                              replace p335 := eq_true p335
                              replace q335 := eq_true q335
                              go_wp2_with (first | ((with_reducible refine gate_callee (f := 71) rfl ?_); refine goesL_ (some 41) rfl rfl Tryd.func71 (by kernel_rfl) rfl #[.int .i64 (rd (rd_L1 t330 x5_1) x6_2)] rfl (by (try simp only [List.map_toArray, List.map_cons, List.map_nil]); first | done | rfl | (simp only [List.length_drop, List.length_take]; rfl)) ?_; (with_reducible refine (galoisref22_Number.calls k2 (rd (rd_L1 t330 x5_1) x6_2) t336 _ A16.out).mono ?_); rintro e w18 ⟨rfl, hb⟩; refine ⟨_, rfl, ?_⟩; have n0_ := Aside0.mk (Kd.S_below (by (with_reducible repeat (first | apply Kd.S_alloc | apply Kd.S_drewN | apply Kd.S_drew)); exact HO_3.out) hb); have n1_ := Aside0.mk (Kd.R_below (by (with_reducible repeat (first | apply Kd.R_alloc | apply Kd.R_drewN | apply Kd.R_drew)); exact HL333_0.out) hb); have n2_ := Aside0.mk (Kd.R_below (by (with_reducible repeat (first | apply Kd.R_alloc | apply Kd.R_drewN | apply Kd.R_drew)); exact HL334_0.out) hb); have n3_ := Aside0.mk (Kd.C_below (by repeat (first | (with_reducible exact HR333_0.out) | (with_reducible refine Kd.C_alloc ?_ _) | (with_reducible refine Kd.C_drewN ?_ _) | (with_reducible refine Kd.C_drew ?_) | exact HR333_0.out)) hb); have n4_ := Aside0.mk (Kd.C_below (by repeat (first | (with_reducible exact HR334_0.out) | (with_reducible refine Kd.C_alloc ?_ _) | (with_reducible refine Kd.C_drewN ?_ _) | (with_reducible refine Kd.C_drew ?_) | exact HR334_0.out)) hb); have n5_ := Aside0.mk (below_step (by repeat (first | (with_reducible first | exact HB.out | apply below_alloc | apply pw_below_drewN | apply below_drew1) | exact HB.out)) hb); clear HO_3; clear HL333_0; clear HL334_0; clear HR333_0; clear HR334_0; clear HB; have HO_3 := n0_; have HL333_0 := n1_; have HL334_0 := n2_; have HR333_0 := n3_; have HR334_0 := n4_; have HB := n5_; clear n0_ n1_ n2_ n3_ n4_ n5_; (try clear hb); (try clear hb2); (try clear hk); (try clear hi)))
                              go_roundg k2
                              case measure => have := HK1.out; have := HK2.out; omega
                              case rel => exact ⟨((x4_2 ++ (⟨#[32]⟩ : ByteArray)) ++ t336), (wrap64 (x6_2 + 1)), (by first | rfl | (simp; done) | (simp [*]; done)), (by first | rfl | (simp; done) | (simp [*]; done)), H', ⟨by have := HK1.out; have := HK2.out; omega⟩, ⟨by (with_reducible repeat (first | apply Kd.S_alloc | apply Kd.S_drewN | apply Kd.S_drew)); exact HO_3.out⟩, ⟨by repeat (first | (with_reducible first | exact HB.out | apply below_alloc | apply pw_below_drewN | apply below_drew1) | exact HB.out)⟩⟩
                            · rw [if_neg c17] at H
                              exact absurd H (by simp)
                          · rw [if_neg c15] at H
                            exact absurd H (by simp)
                        · rw [if_neg c14] at H
                          exact absurd H (by simp)
                      · rw [if_neg c13] at H
                        have c13b0 : decide (0 < x6_2) = false := decide_eq_false c13
                        clear c13
                        by_cases c19 : 0 ≤ x6_2
                        · rw [if_pos c19] at H
                          have c19b0 : decide (0 ≤ x6_2) = true := decide_eq_true c19
                          clear c19
                          replace H := Option.bind_eq_some_iff.mp H
                          obtain ⟨t339, A200, H⟩ := H
                          replace H : (if x4_2.size + t339.size ≤ 9223372036854775807 then (galoisref22_Format.l1 k2 t330 (x4_2 ++ t339) x5_1 (wrap64 (x6_2 + 1))) else (none)) = some r := H
                          have A20 := Aside0.mk A200
                          clear A200
                          by_cases c21 : x4_2.size + t339.size ≤ 9223372036854775807
                          · rw [if_pos c21] at H
                            have c21b0 := eq_true c21
                            have c21b1 : decide (x4_2.size + t339.size ≤ 9223372036854775807) = true := decide_eq_true c21
                            try have c21b2 : (9223372036854775807 < x4_2.size + t339.size) = False := eq_false (Nat.not_lt.2 c21)
                            have H' := Aside0.mk H
                            clear H
                            have p333 : 0 ≤ (x5_1 : Int) := of_decide_eq_true (by first | (with_reducible assumption) | assumption)
                            have q333 : x5_1 < (t330.length : Int) := of_decide_eq_true (by first | (with_reducible assumption) | assumption)
                            obtain ⟨ad333, A333_0, c333_0, e333, hx333_0, hl333_0, hi333_0⟩ := at_L1 (Kd.S_reads' HO_3.out).2.2 x5_1 p333 q333
                            cases e333
                            obtain ⟨ce333, hce333, hMe333, hcc333⟩ := Kd.S_get HO_3.out [] x5_1 p333 (by first | exact q333 | exact of_decide_eq_true (by first | (with_reducible assumption) | assumption) | (have e_ := (Kd.S_reads' HO_3.out).1; omega))
                            obtain ⟨ve333_0, rfl, ge333_0⟩ := hMe333
                            have hv333_0 := hcc333 0 _ rfl
                            rw [Nat.add_zero, show ((Kd.slice 3 (Kd.int .i64))).sz = 1 from rfl, Nat.mul_one] at hv333_0
                            replace hv333_0 := Option.some.inj (hv333_0.symm.trans hx333_0)
                            rw [hv333_0] at ge333_0
                            have HL333_0 := Aside0.mk (show Kd.R (Kd.int .i64) 3 _ _ _ _ (rd_L1 t330 x5_1) from ge333_0)
                            clear hv333_0 ge333_0
                            clear hcc333 hce333
                            have HR333_0 := Aside0.mk hi333_0
                            have HC333_0 := Aside0.mk hl333_0
                            clear hi333_0 hl333_0
                            replace p333 := eq_true p333
                            replace q333 := eq_true q333
                            have p337 : 0 ≤ (x5_1 : Int) := of_decide_eq_true (by first | (with_reducible assumption) | assumption)
                            have q337 : x5_1 < (t330.length : Int) := of_decide_eq_true (by first | (with_reducible assumption) | assumption)
                            obtain ⟨ad337, A337_0, c337_0, e337, hx337_0, hl337_0, hi337_0⟩ := at_L1 (Kd.S_reads' HO_3.out).2.2 x5_1 p337 q337
                            obtain rfl : ad333 = ad337 := (by injection e337)
                            obtain ⟨ce337, hce337, hMe337, hcc337⟩ := Kd.S_get HO_3.out [] x5_1 p337 (by first | exact q337 | exact of_decide_eq_true (by first | (with_reducible assumption) | assumption) | (have e_ := (Kd.S_reads' HO_3.out).1; omega))
                            obtain ⟨ve337_0, rfl, ge337_0⟩ := hMe337
                            have hv337_0 := hcc337 0 _ rfl
                            rw [Nat.add_zero, show ((Kd.slice 3 (Kd.int .i64))).sz = 1 from rfl, Nat.mul_one] at hv337_0
                            replace hv337_0 := Option.some.inj (hv337_0.symm.trans hx337_0)
                            rw [hv337_0] at ge337_0
                            have HL337_0 := Aside0.mk (show Kd.R (Kd.int .i64) 3 _ _ _ _ (rd_L1 t330 x5_1) from ge337_0)
                            clear hv337_0 ge337_0
                            clear hcc337 hce337
                            have HR337_0 := Aside0.mk hi337_0
                            have HC337_0 := Aside0.mk hl337_0
                            clear hi337_0 hl337_0
                            replace p337 := eq_true p337
                            replace q337 := eq_true q337
                            have ea_ := Option.some.inj (hx333_0.symm.trans hx337_0)
                            injection ea_ with ea_ en_ ec_
                            subst ea_
                            subst ec_
                            clear en_
                            have p338 : 0 ≤ (x6_2 : Int) := of_decide_eq_true (by first | (with_reducible assumption) | assumption)
                            have q338 : x6_2 < ((rd_L1 t330 x5_1).length : Int) := of_decide_eq_true (by first | (with_reducible assumption) | assumption)
                            obtain ⟨ad338, e338, hx338_0⟩ := Kd.at_int (by repeat (first | (with_reducible exact HR337_0.out) | (with_reducible refine Kd.C_alloc ?_ _) | (with_reducible refine Kd.C_drewN ?_ _) | (with_reducible refine Kd.C_drew ?_) | exact HR337_0.out)) x6_2 p338 q338
                            cases e338
                            replace p338 := eq_true p338
                            replace q338 := eq_true q338
                            go_wp2_with (first | ((with_reducible refine gate_callee (f := 71) rfl ?_); refine goesL_ (some 41) rfl rfl Tryd.func71 (by kernel_rfl) rfl #[.int .i64 (rd (rd_L1 t330 x5_1) x6_2)] rfl (by (try simp only [List.map_toArray, List.map_cons, List.map_nil]); first | done | rfl | (simp only [List.length_drop, List.length_take]; rfl)) ?_; (with_reducible refine (galoisref22_Number.calls k2 (rd (rd_L1 t330 x5_1) x6_2) t339 _ A20.out).mono ?_); rintro e w22 ⟨rfl, hb⟩; refine ⟨_, rfl, ?_⟩; have n0_ := Aside0.mk (Kd.S_below (by (with_reducible repeat (first | apply Kd.S_alloc | apply Kd.S_drewN | apply Kd.S_drew)); exact HO_3.out) hb); have n1_ := Aside0.mk (Kd.R_below (by (with_reducible repeat (first | apply Kd.R_alloc | apply Kd.R_drewN | apply Kd.R_drew)); exact HL333_0.out) hb); have n2_ := Aside0.mk (Kd.R_below (by (with_reducible repeat (first | apply Kd.R_alloc | apply Kd.R_drewN | apply Kd.R_drew)); exact HL337_0.out) hb); have n3_ := Aside0.mk (Kd.C_below (by repeat (first | (with_reducible exact HR333_0.out) | (with_reducible refine Kd.C_alloc ?_ _) | (with_reducible refine Kd.C_drewN ?_ _) | (with_reducible refine Kd.C_drew ?_) | exact HR333_0.out)) hb); have n4_ := Aside0.mk (Kd.C_below (by repeat (first | (with_reducible exact HR337_0.out) | (with_reducible refine Kd.C_alloc ?_ _) | (with_reducible refine Kd.C_drewN ?_ _) | (with_reducible refine Kd.C_drew ?_) | exact HR337_0.out)) hb); have n5_ := Aside0.mk (below_step (by repeat (first | (with_reducible first | exact HB.out | apply below_alloc | apply pw_below_drewN | apply below_drew1) | exact HB.out)) hb); clear HO_3; clear HL333_0; clear HL337_0; clear HR333_0; clear HR337_0; clear HB; have HO_3 := n0_; have HL333_0 := n1_; have HL337_0 := n2_; have HR333_0 := n3_; have HR337_0 := n4_; have HB := n5_; clear n0_ n1_ n2_ n3_ n4_ n5_; (try clear hb); (try clear hb2); (try clear hk); (try clear hi)))
                            go_roundg k2
                            case measure => have := HK1.out; have := HK2.out; omega
                            case rel => exact ⟨(x4_2 ++ t339), (wrap64 (x6_2 + 1)), (by first | rfl | (simp; done) | (simp [*]; done)), (by first | rfl | (simp; done) | (simp [*]; done)), H', ⟨by have := HK1.out; have := HK2.out; omega⟩, ⟨by (with_reducible repeat (first | apply Kd.S_alloc | apply Kd.S_drewN | apply Kd.S_drew)); exact HO_3.out⟩, ⟨by repeat (first | (with_reducible first | exact HB.out | apply below_alloc | apply pw_below_drewN | apply below_drew1) | exact HB.out)⟩⟩
                          · rw [if_neg c21] at H
                            exact absurd H (by simp)
                        · rw [if_neg c19] at H
                          exact absurd H (by simp)
                    · rw [if_neg c12] at H
                      have c12b0 : decide (x6_2 < ((rd_L1 t330 x5_1).length : Int)) = false := decide_eq_false c12
                      clear c12
                      by_cases c23 : x4_2.size + 1 ≤ 9223372036854775807
                      · rw [if_pos c23] at H
                        have c23b0 := eq_true c23
                        have c23b1 : decide (x4_2.size + 1 ≤ 9223372036854775807) = true := decide_eq_true c23
                        try have c23b2 : (9223372036854775807 < x4_2.size + 1) = False := eq_false (Nat.not_lt.2 c23)
                        have H' := Aside0.mk H
                        clear H
                        have p333 : 0 ≤ (x5_1 : Int) := of_decide_eq_true (by first | (with_reducible assumption) | assumption)
                        have q333 : x5_1 < (t330.length : Int) := of_decide_eq_true (by first | (with_reducible assumption) | assumption)
                        obtain ⟨ad333, A333_0, c333_0, e333, hx333_0, hl333_0, hi333_0⟩ := at_L1 (Kd.S_reads' HO_3.out).2.2 x5_1 p333 q333
                        cases e333
                        obtain ⟨ce333, hce333, hMe333, hcc333⟩ := Kd.S_get HO_3.out [] x5_1 p333 (by first | exact q333 | exact of_decide_eq_true (by first | (with_reducible assumption) | assumption) | (have e_ := (Kd.S_reads' HO_3.out).1; omega))
                        obtain ⟨ve333_0, rfl, ge333_0⟩ := hMe333
                        have hv333_0 := hcc333 0 _ rfl
                        rw [Nat.add_zero, show ((Kd.slice 3 (Kd.int .i64))).sz = 1 from rfl, Nat.mul_one] at hv333_0
                        replace hv333_0 := Option.some.inj (hv333_0.symm.trans hx333_0)
                        rw [hv333_0] at ge333_0
                        have HL333_0 := Aside0.mk (show Kd.R (Kd.int .i64) 3 _ _ _ _ (rd_L1 t330 x5_1) from ge333_0)
                        clear hv333_0 ge333_0
                        clear hcc333 hce333
                        have HR333_0 := Aside0.mk hi333_0
                        have HC333_0 := Aside0.mk hl333_0
                        clear hi333_0 hl333_0
                        replace p333 := eq_true p333
                        replace q333 := eq_true q333
                        go_wp2
                        go_roundg k2
                        case measure => have := HK1.out; have := HK2.out; omega
                        case rel => exact ⟨(x4_2 ++ (⟨#[41]⟩ : ByteArray)), (wrap64 (x5_1 + 1)), (by first | rfl | (simp; done) | (simp [*]; done)), (by first | rfl | (simp; done) | (simp [*]; done)), H', ⟨by have := HK1.out; have := HK2.out; omega⟩, ⟨by (with_reducible repeat (first | apply Kd.S_alloc | apply Kd.S_drewN | apply Kd.S_drew)); exact HO_3.out⟩, ⟨by repeat (first | (with_reducible first | exact HB.out | apply below_alloc | apply pw_below_drewN | apply below_drew1) | exact HB.out)⟩⟩
                      · rw [if_neg c23] at H
                        exact absurd H (by simp)
                  · rw [if_neg c11] at H
                    exact absurd H (by simp)
                · rw [if_neg c10] at H
                  exact absurd H (by simp)
          · rw [if_neg c9] at H
            exact absurd H (by simp)
        · rw [if_neg c8] at H
          have c8b0 : decide (x5_1 < (t330.length : Int)) = false := decide_eq_false c8
          clear c8
          obtain rfl := Option.some.inj H
          go_wp2
          go_ret
          exact ⟨by first | rfl | (simp [errW_none, errW_some] <;> rfl) | (simp [*, errW_none, errW_some] <;> rfl), by repeat (first | (with_reducible first | exact HB.out | apply below_alloc | apply pw_below_drewN | apply below_drew1) | exact HB.out)⟩

/-! ### galoislaw22_PermTexts: function 8 -/
mutual
def galoislaw22_PermTexts.j0 : Nat → Int → ByteArray → List Int → Bool → Option (Bool)
  | 0, _, _, _, _ => none
  | k + 1, x0, x1, x2, x36 => if x36 = true then ((galoislaw22_awake.f k).bind fun t345 => (some t345)) else ((perm_Parse.f k x0 x1).bind fun bt346 => ((galoisref22_Parse.f k x0 x1).bind fun bt350 => (if bt346.2 = bt350.2 then ((galoisref22_Same.f k bt346.1 bt350.1).bind fun t354 => (galoislaw22_PermTexts.j1 k x2 (!t354))) else (galoislaw22_PermTexts.j1 k x2 true))))
def galoislaw22_PermTexts.j1 : Nat → List Int → Bool → Option (Bool)
  | 0, _, _ => none
  | k + 1, x2, x58 => if x58 = true then (some false) else ((perm_Format.f k x2).bind fun bt355 => ((galoisref22_Check.f k x2).bind fun t357 => (if t357 = 0 then (if bt355.2 = 0 then ((galoisref22_Format.f k x2).bind fun t358 => (some (bt355.1.toList == t358.toList))) else (some false)) else (if bt355.2 = t357 then (some (bt355.1.toList == ([] : List UInt8))) else (some false)))))
end
def galoislaw22_PermTexts.f (k : Nat) (a0 : Int) (a1 : ByteArray) (l2 : List Int) : Option (Bool) := (galoislaw22_awake.f k).bind fun t340 => (if t340 = true then ((galoislaw22_few.f k (([l2] : List (List Int)))).bind fun t344 => (if t344 = true then (if (a1.size : Int) > 200 then (if (a1.size : Int) ≤ 4096 then (galoislaw22_PermTexts.j0 k a0 a1 l2 true) else (galoislaw22_PermTexts.j0 k a0 a1 l2 (decide ((a1.size : Int) > 8192)))) else (galoislaw22_PermTexts.j0 k a0 a1 l2 (decide ((a1.size : Int) > 8192)))) else (galoislaw22_PermTexts.j0 k a0 a1 l2 true))) else (galoislaw22_PermTexts.j0 k a0 a1 l2 true))
theorem galoislaw22_PermTexts.mono_l : ∀ k, (∀ y0 y1 y2 y3, LeO (galoislaw22_PermTexts.j0 k y0 y1 y2 y3) (galoislaw22_PermTexts.j0 (k + 1) y0 y1 y2 y3)) ∧ (∀ y0 y1, LeO (galoislaw22_PermTexts.j1 k y0 y1) (galoislaw22_PermTexts.j1 (k + 1) y0 y1))
  | 0 => ⟨fun _ _ _ _ r h => by simp [galoislaw22_PermTexts.j0] at h, fun _ _ r h => by simp [galoislaw22_PermTexts.j1] at h⟩
  | k + 1 => by
    obtain ⟨ih0, ih1⟩ := galoislaw22_PermTexts.mono_l k
    refine ⟨?_, ?_⟩
    · intro y0 y1 y2 y3
      unfold galoislaw22_PermTexts.j0
      repeat' first
      | (with_reducible exact ih0 _ _ _ _)
      | (with_reducible exact ih1 _ _)
      | (with_reducible exact galoislaw22_awake.mono _)
      | (with_reducible exact galoislaw22_few.mono _ _)
      | (with_reducible exact galoisref22_Check.mono _ _)
      | (with_reducible exact galoisref22_Format.mono _ _)
      | (with_reducible exact galoisref22_Parse.mono _ _ _)
      | (with_reducible exact galoisref22_Same.mono _ _ _)
      | (with_reducible exact perm_Format.mono _ _)
      | (with_reducible exact perm_Parse.mono _ _ _)
      | (with_reducible exact LeO.refl _)
      | (with_reducible exact LeO.none _)
      | (with_reducible refine LeO.ite ?_ ?_)
      | (with_reducible refine LeO.bind ?_ (fun _ => ?_))
      | exact ih0 _ _ _ _
      | exact ih1 _ _
      | exact galoislaw22_awake.mono _
      | exact galoislaw22_few.mono _ _
      | exact galoisref22_Check.mono _ _
      | exact galoisref22_Format.mono _ _
      | exact galoisref22_Parse.mono _ _ _
      | exact galoisref22_Same.mono _ _ _
      | exact perm_Format.mono _ _
      | exact perm_Parse.mono _ _ _
      | exact LeO.none _
      | refine LeO.ite ?_ ?_
      | refine LeO.bind ?_ (fun _ => ?_)
    · intro y0 y1
      unfold galoislaw22_PermTexts.j1
      repeat' first
      | (with_reducible exact ih0 _ _ _ _)
      | (with_reducible exact ih1 _ _)
      | (with_reducible exact galoislaw22_awake.mono _)
      | (with_reducible exact galoislaw22_few.mono _ _)
      | (with_reducible exact galoisref22_Check.mono _ _)
      | (with_reducible exact galoisref22_Format.mono _ _)
      | (with_reducible exact galoisref22_Parse.mono _ _ _)
      | (with_reducible exact galoisref22_Same.mono _ _ _)
      | (with_reducible exact perm_Format.mono _ _)
      | (with_reducible exact perm_Parse.mono _ _ _)
      | (with_reducible exact LeO.refl _)
      | (with_reducible exact LeO.none _)
      | (with_reducible refine LeO.ite ?_ ?_)
      | (with_reducible refine LeO.bind ?_ (fun _ => ?_))
      | exact ih0 _ _ _ _
      | exact ih1 _ _
      | exact galoislaw22_awake.mono _
      | exact galoislaw22_few.mono _ _
      | exact galoisref22_Check.mono _ _
      | exact galoisref22_Format.mono _ _
      | exact galoisref22_Parse.mono _ _ _
      | exact galoisref22_Same.mono _ _ _
      | exact perm_Format.mono _ _
      | exact perm_Parse.mono _ _ _
      | exact LeO.none _
      | refine LeO.ite ?_ ?_
      | refine LeO.bind ?_ (fun _ => ?_)
theorem galoislaw22_PermTexts.mono : ∀ a0 a1 a2 k, LeO (galoislaw22_PermTexts.f k a0 a1 a2) (galoislaw22_PermTexts.f (k + 1) a0 a1 a2) := by
  intro a0 a1 a2 k
  obtain ⟨ih0, ih1⟩ := galoislaw22_PermTexts.mono_l k
  unfold galoislaw22_PermTexts.f
  repeat' first
      | (with_reducible exact ih0 _ _ _ _)
      | (with_reducible exact ih1 _ _)
      | (with_reducible exact galoislaw22_awake.mono _)
      | (with_reducible exact galoislaw22_few.mono _ _)
      | (with_reducible exact galoisref22_Check.mono _ _)
      | (with_reducible exact galoisref22_Format.mono _ _)
      | (with_reducible exact galoisref22_Parse.mono _ _ _)
      | (with_reducible exact galoisref22_Same.mono _ _ _)
      | (with_reducible exact perm_Format.mono _ _)
      | (with_reducible exact perm_Parse.mono _ _ _)
      | (with_reducible exact LeO.refl _)
      | (with_reducible exact LeO.none _)
      | (with_reducible refine LeO.ite ?_ ?_)
      | (with_reducible refine LeO.bind ?_ (fun _ => ?_))
      | exact ih0 _ _ _ _
      | exact ih1 _ _
      | exact galoislaw22_awake.mono _
      | exact galoislaw22_few.mono _ _
      | exact galoisref22_Check.mono _ _
      | exact galoisref22_Format.mono _ _
      | exact galoisref22_Parse.mono _ _ _
      | exact galoisref22_Same.mono _ _ _
      | exact perm_Format.mono _ _
      | exact perm_Parse.mono _ _ _
      | exact LeO.none _
      | refine LeO.ite ?_ ?_
      | refine LeO.bind ?_ (fun _ => ?_)
set_option maxHeartbeats 8000000 in
set_option maxRecDepth 100000 in
theorem galoislaw22_PermTexts.calls (k : Nat) (a0 : Int) (a1 : ByteArray) (P2_ : Nat → Prop) (A2 : Option Addr) (c2 : Nat) (l2 : List Int) (r : Bool) (w : World) (hs2 : Kd.V (Kd.int .i64) 3 w w.heap.size (fun k_ => P2_ k_) (.slice A2 l2.length c2) l2) (h : galoislaw22_PermTexts.f k a0 a1 l2 = some r) :
    Calls Tryd.prog 8 #[.int .i64 a0, .string a1, .slice A2 l2.length c2] w fun e w' => e = .returned (.bool r) ∧ Below w.heap.size w w' := by
  have HO2 := Aside0.mk (show Kd.V (Kd.int .i64) 3 w w.heap.size (fun k_ => (P2_ k_ ∨ w.heap.size ≤ k_)) (.slice A2 l2.length c2) l2 from Kd.V_mono hs2 (fun k_ hk => .inl hk))
  have HB := Aside0.mk (Below.refl w.heap.size w)
  have H : ((galoislaw22_awake.f k).bind fun t340 => (if t340 = true then ((galoislaw22_few.f k (([l2] : List (List Int)))).bind fun t344 => (if t344 = true then (if (a1.size : Int) > 200 then (if (a1.size : Int) ≤ 4096 then (galoislaw22_PermTexts.j0 k a0 a1 l2 true) else (galoislaw22_PermTexts.j0 k a0 a1 l2 (decide ((a1.size : Int) > 8192)))) else (galoislaw22_PermTexts.j0 k a0 a1 l2 (decide ((a1.size : Int) > 8192)))) else (galoislaw22_PermTexts.j0 k a0 a1 l2 true))) else (galoislaw22_PermTexts.j0 k a0 a1 l2 true))) = some r := h
  clear h
  have HC4 := Aside0.mk H
  clear H
  go_enter Tryd.func8, Tryd.ntmps8
  go_upto_region 1 with (fail)
  go_cut [36] (fun v36 wc => ∃ (kq : Nat) (x36_3 : Bool), v36 = .bool x36_3 ∧ Aside0 (galoislaw22_PermTexts.j0 kq a0 a1 l2 x36_3 = some r) ∧ Aside0 (kq ≤ k) ∧ Aside0 (Kd.V (Kd.int .i64) 3 wc w.heap.size (fun k_ => (P2_ k_ ∨ w.heap.size ≤ k_)) (.slice A2 l2.length c2) l2) ∧ Aside0 (Below w.heap.size w wc))
  case first =>
    have H := HC4.out
    clear HC4
    replace H := Option.bind_eq_some_iff.mp H
    obtain ⟨t340, A50, H⟩ := H
    replace H : (if t340 = true then ((galoislaw22_few.f k (([l2] : List (List Int)))).bind fun t344 => (if t344 = true then (if (a1.size : Int) > 200 then (if (a1.size : Int) ≤ 4096 then (galoislaw22_PermTexts.j0 k a0 a1 l2 true) else (galoislaw22_PermTexts.j0 k a0 a1 l2 (decide ((a1.size : Int) > 8192)))) else (galoislaw22_PermTexts.j0 k a0 a1 l2 (decide ((a1.size : Int) > 8192)))) else (galoislaw22_PermTexts.j0 k a0 a1 l2 true))) else (galoislaw22_PermTexts.j0 k a0 a1 l2 true)) = some r := H
    have A5 := Aside0.mk A50
    clear A50
    by_cases c6 : t340 = true
    · subst c6
      have H1 : ((galoislaw22_few.f k (([l2] : List (List Int)))).bind fun t344 => (if t344 = true then (if (a1.size : Int) > 200 then (if (a1.size : Int) ≤ 4096 then (galoislaw22_PermTexts.j0 k a0 a1 l2 true) else (galoislaw22_PermTexts.j0 k a0 a1 l2 (decide ((a1.size : Int) > 8192)))) else (galoislaw22_PermTexts.j0 k a0 a1 l2 (decide ((a1.size : Int) > 8192)))) else (galoislaw22_PermTexts.j0 k a0 a1 l2 true))) = some r := by rw [if_pos rfl] at H; exact H
      clear H
      have H := H1
      clear H1
      obtain ⟨y341, hy341⟩ : ∃ y_ : List (List Int), y_ = (([l2] : List (List Int))) := ⟨_, rfl⟩
      replace H : ((galoislaw22_few.f k y341).bind fun t344 => (if t344 = true then (if (a1.size : Int) > 200 then (if (a1.size : Int) ≤ 4096 then (galoislaw22_PermTexts.j0 k a0 a1 l2 true) else (galoislaw22_PermTexts.j0 k a0 a1 l2 (decide ((a1.size : Int) > 8192)))) else (galoislaw22_PermTexts.j0 k a0 a1 l2 (decide ((a1.size : Int) > 8192)))) else (galoislaw22_PermTexts.j0 k a0 a1 l2 true))) = some r := by first | (rw [hy341]; with_reducible exact H) | (have H2_ := (Option.bind_some _ _).symm.trans H; rw [hy341]; with_reducible exact H2_) | (have H2_ := (Option.bind_some _ _).symm.trans H; with_reducible exact H2_) | with_reducible exact H | (rw [hy341]; exact H) | exact H
      have Ny341 := Aside0.mk hy341
      clear hy341
      replace H := Option.bind_eq_some_iff.mp H
      obtain ⟨t344, A70, H⟩ := H
      replace H : (if t344 = true then (if (a1.size : Int) > 200 then (if (a1.size : Int) ≤ 4096 then (galoislaw22_PermTexts.j0 k a0 a1 l2 true) else (galoislaw22_PermTexts.j0 k a0 a1 l2 (decide ((a1.size : Int) > 8192)))) else (galoislaw22_PermTexts.j0 k a0 a1 l2 (decide ((a1.size : Int) > 8192)))) else (galoislaw22_PermTexts.j0 k a0 a1 l2 true)) = some r := H
      have A7 := Aside0.mk A70
      clear A70
      by_cases c8 : t344 = true
      · subst c8
        have H1 : (if (a1.size : Int) > 200 then (if (a1.size : Int) ≤ 4096 then (galoislaw22_PermTexts.j0 k a0 a1 l2 true) else (galoislaw22_PermTexts.j0 k a0 a1 l2 (decide ((a1.size : Int) > 8192)))) else (galoislaw22_PermTexts.j0 k a0 a1 l2 (decide ((a1.size : Int) > 8192)))) = some r := by rw [if_pos rfl] at H; exact H
        clear H
        have H := H1
        clear H1
        by_cases c9 : (a1.size : Int) > 200
        · rw [if_pos c9] at H
          have c9b0 : decide (200 < (a1.size : Int)) = true := decide_eq_true c9
          have c9b1 : decide (200 < a1.size) = true := decide_eq_true (by omega)
          clear c9
          (first | rw [c9b0] | (simp only [i64_w, i32_w]; rw [c9b0]) | skip)
          by_cases c10 : (a1.size : Int) ≤ 4096
          · rw [if_pos c10] at H
            have c10b0 : decide ((a1.size : Int) ≤ 4096) = true := decide_eq_true c10
            have c10b1 : decide (a1.size ≤ 4096) = true := decide_eq_true (by omega)
            clear c10
            have H' := Aside0.mk H
            clear H
            go_wp2_with (first | ((with_reducible refine gate_callee (f := 12) rfl ?_); refine goesL_ (some 14) rfl rfl Tryd.func12 (by kernel_rfl) rfl #[] rfl (by (try simp only [List.map_toArray, List.map_cons, List.map_nil]); first | done | rfl | (simp only [List.length_drop, List.length_take]; rfl)) ?_; (with_reducible refine (galoislaw22_awake.calls k  true _ A5.out).mono ?_); rintro e w11 ⟨rfl, hb⟩; refine ⟨_, rfl, ?_⟩; have n0_ := Aside0.mk (Kd.V_below (by (with_reducible repeat (first | apply Kd.V_alloc | apply Kd.V_drewN | apply Kd.V_drew)); exact HO2.out) hb); have n1_ := Aside0.mk (below_step (by repeat (first | (with_reducible first | exact HB.out | apply below_alloc | apply pw_below_drewN | apply below_drew1) | exact HB.out)) hb); clear HO2; clear HB; have HO2 := n0_; have HB := n1_; clear n0_ n1_; (try clear hb); (try clear hb2); (try clear hk); (try clear hi)) | ((with_reducible refine gate_dst (N := 18) rfl ?_); (try (refine gate_guard (by rfl) ?_; dsimp only)); refine Kd.N_lit (Kd.slice 3 (Kd.int .i64)) _ 22 ?hg (N' := 18) ?hd (xs := ([l2] : List (List Int))) (inner := [.slice A2 l2.length c2]) (ok := (fun k_ => (P2_ k_ ∨ w.heap.size ≤ k_))) (okp := (fun k_ => (P2_ k_ ∨ w.heap.size ≤ k_))) ?hr ?hp (fun _ hk => hk) ((show ∀ k_, w11.heap.size ≤ k_ → (fun k_ => (P2_ k_ ∨ w.heap.size ≤ k_)) k_ from fun k_ hk => (.inr (Nat.le_trans (below_size (by repeat (first | (with_reducible first | exact HB.out | apply below_alloc | apply pw_below_drewN | apply below_drew1) | exact HB.out))) hk))) _ (Nat.le_refl _)) (Below.refl _ _) (Nat.le_refl _) (by simp) ?_; (case hd => rfl); (case hg => rfl); (case hr => first | (go_simp; done) | (go_simp; rfl)); (case hp => exact (Reps.one (show Kd.FK (Kd.slice 3 (Kd.int .i64)) _ _ l2 [.slice A2 l2.length c2] from (Kd.FK_slice_mk (Kd.V_reads' (Kd.V_mono (ok' := (fun k_ => (P2_ k_ ∨ w.heap.size ≤ k_))) (HO2.out) (fun k_ hk => hk))).2.1 (Kd.V_F (Kd.V_mono (ok' := (fun k_ => (P2_ k_ ∨ w.heap.size ≤ k_))) (HO2.out) (fun k_ hk => hk))))) (Reps.none _ _))); intro v342 w12 ho13 hb hg_ hnew_; clear hg_ hnew_; (first | rw [← Ny341.out] at ho13 | (simp only [Int.reduceToNat] at ho13; rw [← Ny341.out] at ho13)); have n0_ := Aside0.mk (Kd.V_elder' (by (with_reducible repeat (first | apply Kd.V_alloc | apply Kd.V_drewN | apply Kd.V_drew)); exact HO2.out) (by first | exact Kd.N_base ho13 | exact Kd.S_base ho13 | exact Kd.R_base ho13) hb); have n1_ := Aside0.mk (Kd.N_lower ho13 (below_size (by repeat (first | (with_reducible first | exact HB.out | apply below_alloc | apply pw_below_drewN | apply below_drew1) | exact HB.out)))); have n2_ := Aside0.mk (below_step (by repeat (first | (with_reducible first | exact HB.out | apply below_alloc | apply pw_below_drewN | apply below_drew1) | exact HB.out)) hb); clear HO2; clear HB; have HO2 := n0_; have HO343 := n1_; have HB := n2_; clear n0_ n1_ n2_; clear hb ho13; obtain ⟨Ao14, co14, eo14⟩ := Kd.N_slice HO343.out; subst eo14) | (go_at_call 13; (with_reducible refine (galoislaw22_few.calls k _ _ y341 true _ ?side1 ?side2 A7.out).mono ?_); (case side1 => repeat (first | exact (Kd.N_reads' HO343.out).2.2 | (with_reducible refine Kd.C_alloc ?_ _) | (with_reducible refine Kd.C_drewN ?_ _) | (with_reducible refine Kd.C_drew ?_))); (case side2 => exact (Kd.N_reads' HO343.out).2.1); rintro e w' ⟨rfl, ⟨nd, rfl⟩⟩))
            go_meet
            case rel => exact ⟨_, (true), (by first | rfl | (simp; done) | (simp [*]; done)), H', ⟨by first | omega | exact Nat.le_refl _⟩, ⟨by (with_reducible repeat (first | apply Kd.V_alloc | apply Kd.V_drewN | apply Kd.V_drew)); exact Kd.V_mono HO2.out (fun _ hk => hk.1)⟩, ⟨by repeat (first | (with_reducible first | exact HB.out | apply below_alloc | apply pw_below_drewN | apply below_drew1) | exact HB.out)⟩⟩
          · rw [if_neg c10] at H
            have c10b0 : decide ((a1.size : Int) ≤ 4096) = false := decide_eq_false c10
            have c10b1 : decide (a1.size ≤ 4096) = false := decide_eq_false (by omega)
            clear c10
            have H' := Aside0.mk H
            clear H
            go_wp2_with (first | ((with_reducible refine gate_callee (f := 12) rfl ?_); refine goesL_ (some 14) rfl rfl Tryd.func12 (by kernel_rfl) rfl #[] rfl (by (try simp only [List.map_toArray, List.map_cons, List.map_nil]); first | done | rfl | (simp only [List.length_drop, List.length_take]; rfl)) ?_; (with_reducible refine (galoislaw22_awake.calls k  true _ A5.out).mono ?_); rintro e w15 ⟨rfl, hb⟩; refine ⟨_, rfl, ?_⟩; have n0_ := Aside0.mk (Kd.V_below (by (with_reducible repeat (first | apply Kd.V_alloc | apply Kd.V_drewN | apply Kd.V_drew)); exact HO2.out) hb); have n1_ := Aside0.mk (below_step (by repeat (first | (with_reducible first | exact HB.out | apply below_alloc | apply pw_below_drewN | apply below_drew1) | exact HB.out)) hb); clear HO2; clear HB; have HO2 := n0_; have HB := n1_; clear n0_ n1_; (try clear hb); (try clear hb2); (try clear hk); (try clear hi)) | ((with_reducible refine gate_dst (N := 18) rfl ?_); (try (refine gate_guard (by rfl) ?_; dsimp only)); refine Kd.N_lit (Kd.slice 3 (Kd.int .i64)) _ 22 ?hg (N' := 18) ?hd (xs := ([l2] : List (List Int))) (inner := [.slice A2 l2.length c2]) (ok := (fun k_ => (P2_ k_ ∨ w.heap.size ≤ k_))) (okp := (fun k_ => (P2_ k_ ∨ w.heap.size ≤ k_))) ?hr ?hp (fun _ hk => hk) ((show ∀ k_, w15.heap.size ≤ k_ → (fun k_ => (P2_ k_ ∨ w.heap.size ≤ k_)) k_ from fun k_ hk => (.inr (Nat.le_trans (below_size (by repeat (first | (with_reducible first | exact HB.out | apply below_alloc | apply pw_below_drewN | apply below_drew1) | exact HB.out))) hk))) _ (Nat.le_refl _)) (Below.refl _ _) (Nat.le_refl _) (by simp) ?_; (case hd => rfl); (case hg => rfl); (case hr => first | (go_simp; done) | (go_simp; rfl)); (case hp => exact (Reps.one (show Kd.FK (Kd.slice 3 (Kd.int .i64)) _ _ l2 [.slice A2 l2.length c2] from (Kd.FK_slice_mk (Kd.V_reads' (Kd.V_mono (ok' := (fun k_ => (P2_ k_ ∨ w.heap.size ≤ k_))) (HO2.out) (fun k_ hk => hk))).2.1 (Kd.V_F (Kd.V_mono (ok' := (fun k_ => (P2_ k_ ∨ w.heap.size ≤ k_))) (HO2.out) (fun k_ hk => hk))))) (Reps.none _ _))); intro v342 w16 ho17 hb hg_ hnew_; clear hg_ hnew_; (first | rw [← Ny341.out] at ho17 | (simp only [Int.reduceToNat] at ho17; rw [← Ny341.out] at ho17)); have n0_ := Aside0.mk (Kd.V_elder' (by (with_reducible repeat (first | apply Kd.V_alloc | apply Kd.V_drewN | apply Kd.V_drew)); exact HO2.out) (by first | exact Kd.N_base ho17 | exact Kd.S_base ho17 | exact Kd.R_base ho17) hb); have n1_ := Aside0.mk (Kd.N_lower ho17 (below_size (by repeat (first | (with_reducible first | exact HB.out | apply below_alloc | apply pw_below_drewN | apply below_drew1) | exact HB.out)))); have n2_ := Aside0.mk (below_step (by repeat (first | (with_reducible first | exact HB.out | apply below_alloc | apply pw_below_drewN | apply below_drew1) | exact HB.out)) hb); clear HO2; clear HB; have HO2 := n0_; have HO343 := n1_; have HB := n2_; clear n0_ n1_ n2_; clear hb ho17; obtain ⟨Ao18, co18, eo18⟩ := Kd.N_slice HO343.out; subst eo18) | (go_at_call 13; (with_reducible refine (galoislaw22_few.calls k _ _ y341 true _ ?side1 ?side2 A7.out).mono ?_); (case side1 => repeat (first | exact (Kd.N_reads' HO343.out).2.2 | (with_reducible refine Kd.C_alloc ?_ _) | (with_reducible refine Kd.C_drewN ?_ _) | (with_reducible refine Kd.C_drew ?_))); (case side2 => exact (Kd.N_reads' HO343.out).2.1); rintro e w' ⟨rfl, ⟨nd, rfl⟩⟩))
            go_meet
            case rel => exact ⟨_, (decide ((a1.size : Int) > 8192)), (by first | rfl | (simp; done) | (simp [*]; done)), H', ⟨by first | omega | exact Nat.le_refl _⟩, ⟨by (with_reducible repeat (first | apply Kd.V_alloc | apply Kd.V_drewN | apply Kd.V_drew)); exact Kd.V_mono HO2.out (fun _ hk => hk.1)⟩, ⟨by repeat (first | (with_reducible first | exact HB.out | apply below_alloc | apply pw_below_drewN | apply below_drew1) | exact HB.out)⟩⟩
        · rw [if_neg c9] at H
          have c9b0 : decide (200 < (a1.size : Int)) = false := decide_eq_false c9
          have c9b1 : decide (200 < a1.size) = false := decide_eq_false (by omega)
          clear c9
          (first | rw [c9b0] | (simp only [i64_w, i32_w]; rw [c9b0]) | skip)
          have H' := Aside0.mk H
          clear H
          go_wp2_with (first | ((with_reducible refine gate_callee (f := 12) rfl ?_); refine goesL_ (some 14) rfl rfl Tryd.func12 (by kernel_rfl) rfl #[] rfl (by (try simp only [List.map_toArray, List.map_cons, List.map_nil]); first | done | rfl | (simp only [List.length_drop, List.length_take]; rfl)) ?_; (with_reducible refine (galoislaw22_awake.calls k  true _ A5.out).mono ?_); rintro e w19 ⟨rfl, hb⟩; refine ⟨_, rfl, ?_⟩; have n0_ := Aside0.mk (Kd.V_below (by (with_reducible repeat (first | apply Kd.V_alloc | apply Kd.V_drewN | apply Kd.V_drew)); exact HO2.out) hb); have n1_ := Aside0.mk (below_step (by repeat (first | (with_reducible first | exact HB.out | apply below_alloc | apply pw_below_drewN | apply below_drew1) | exact HB.out)) hb); clear HO2; clear HB; have HO2 := n0_; have HB := n1_; clear n0_ n1_; (try clear hb); (try clear hb2); (try clear hk); (try clear hi)) | ((with_reducible refine gate_dst (N := 18) rfl ?_); (try (refine gate_guard (by rfl) ?_; dsimp only)); refine Kd.N_lit (Kd.slice 3 (Kd.int .i64)) _ 22 ?hg (N' := 18) ?hd (xs := ([l2] : List (List Int))) (inner := [.slice A2 l2.length c2]) (ok := (fun k_ => (P2_ k_ ∨ w.heap.size ≤ k_))) (okp := (fun k_ => (P2_ k_ ∨ w.heap.size ≤ k_))) ?hr ?hp (fun _ hk => hk) ((show ∀ k_, w19.heap.size ≤ k_ → (fun k_ => (P2_ k_ ∨ w.heap.size ≤ k_)) k_ from fun k_ hk => (.inr (Nat.le_trans (below_size (by repeat (first | (with_reducible first | exact HB.out | apply below_alloc | apply pw_below_drewN | apply below_drew1) | exact HB.out))) hk))) _ (Nat.le_refl _)) (Below.refl _ _) (Nat.le_refl _) (by simp) ?_; (case hd => rfl); (case hg => rfl); (case hr => first | (go_simp; done) | (go_simp; rfl)); (case hp => exact (Reps.one (show Kd.FK (Kd.slice 3 (Kd.int .i64)) _ _ l2 [.slice A2 l2.length c2] from (Kd.FK_slice_mk (Kd.V_reads' (Kd.V_mono (ok' := (fun k_ => (P2_ k_ ∨ w.heap.size ≤ k_))) (HO2.out) (fun k_ hk => hk))).2.1 (Kd.V_F (Kd.V_mono (ok' := (fun k_ => (P2_ k_ ∨ w.heap.size ≤ k_))) (HO2.out) (fun k_ hk => hk))))) (Reps.none _ _))); intro v342 w20 ho21 hb hg_ hnew_; clear hg_ hnew_; (first | rw [← Ny341.out] at ho21 | (simp only [Int.reduceToNat] at ho21; rw [← Ny341.out] at ho21)); have n0_ := Aside0.mk (Kd.V_elder' (by (with_reducible repeat (first | apply Kd.V_alloc | apply Kd.V_drewN | apply Kd.V_drew)); exact HO2.out) (by first | exact Kd.N_base ho21 | exact Kd.S_base ho21 | exact Kd.R_base ho21) hb); have n1_ := Aside0.mk (Kd.N_lower ho21 (below_size (by repeat (first | (with_reducible first | exact HB.out | apply below_alloc | apply pw_below_drewN | apply below_drew1) | exact HB.out)))); have n2_ := Aside0.mk (below_step (by repeat (first | (with_reducible first | exact HB.out | apply below_alloc | apply pw_below_drewN | apply below_drew1) | exact HB.out)) hb); clear HO2; clear HB; have HO2 := n0_; have HO343 := n1_; have HB := n2_; clear n0_ n1_ n2_; clear hb ho21; obtain ⟨Ao22, co22, eo22⟩ := Kd.N_slice HO343.out; subst eo22) | (go_at_call 13; (with_reducible refine (galoislaw22_few.calls k _ _ y341 true _ ?side1 ?side2 A7.out).mono ?_); (case side1 => repeat (first | exact (Kd.N_reads' HO343.out).2.2 | (with_reducible refine Kd.C_alloc ?_ _) | (with_reducible refine Kd.C_drewN ?_ _) | (with_reducible refine Kd.C_drew ?_))); (case side2 => exact (Kd.N_reads' HO343.out).2.1); rintro e w' ⟨rfl, ⟨nd, rfl⟩⟩))
          go_meet
          case rel => exact ⟨_, (decide ((a1.size : Int) > 8192)), (by first | rfl | (simp; done) | (simp [*]; done)), H', ⟨by first | omega | exact Nat.le_refl _⟩, ⟨by (with_reducible repeat (first | apply Kd.V_alloc | apply Kd.V_drewN | apply Kd.V_drew)); exact Kd.V_mono HO2.out (fun _ hk => hk.1)⟩, ⟨by repeat (first | (with_reducible first | exact HB.out | apply below_alloc | apply pw_below_drewN | apply below_drew1) | exact HB.out)⟩⟩
      · replace c8 := Bool.eq_false_iff.mpr c8
        subst c8
        have H1 : (galoislaw22_PermTexts.j0 k a0 a1 l2 true) = some r := by rw [if_neg (show ¬ (false = true) by decide)] at H; exact H
        clear H
        have H := H1
        clear H1
        have H' := Aside0.mk H
        clear H
        go_wp2_with (first | ((with_reducible refine gate_callee (f := 12) rfl ?_); refine goesL_ (some 14) rfl rfl Tryd.func12 (by kernel_rfl) rfl #[] rfl (by (try simp only [List.map_toArray, List.map_cons, List.map_nil]); first | done | rfl | (simp only [List.length_drop, List.length_take]; rfl)) ?_; (with_reducible refine (galoislaw22_awake.calls k  true _ A5.out).mono ?_); rintro e w23 ⟨rfl, hb⟩; refine ⟨_, rfl, ?_⟩; have n0_ := Aside0.mk (Kd.V_below (by (with_reducible repeat (first | apply Kd.V_alloc | apply Kd.V_drewN | apply Kd.V_drew)); exact HO2.out) hb); have n1_ := Aside0.mk (below_step (by repeat (first | (with_reducible first | exact HB.out | apply below_alloc | apply pw_below_drewN | apply below_drew1) | exact HB.out)) hb); clear HO2; clear HB; have HO2 := n0_; have HB := n1_; clear n0_ n1_; (try clear hb); (try clear hb2); (try clear hk); (try clear hi)) | ((with_reducible refine gate_dst (N := 18) rfl ?_); (try (refine gate_guard (by rfl) ?_; dsimp only)); refine Kd.N_lit (Kd.slice 3 (Kd.int .i64)) _ 22 ?hg (N' := 18) ?hd (xs := ([l2] : List (List Int))) (inner := [.slice A2 l2.length c2]) (ok := (fun k_ => (P2_ k_ ∨ w.heap.size ≤ k_))) (okp := (fun k_ => (P2_ k_ ∨ w.heap.size ≤ k_))) ?hr ?hp (fun _ hk => hk) ((show ∀ k_, w23.heap.size ≤ k_ → (fun k_ => (P2_ k_ ∨ w.heap.size ≤ k_)) k_ from fun k_ hk => (.inr (Nat.le_trans (below_size (by repeat (first | (with_reducible first | exact HB.out | apply below_alloc | apply pw_below_drewN | apply below_drew1) | exact HB.out))) hk))) _ (Nat.le_refl _)) (Below.refl _ _) (Nat.le_refl _) (by simp) ?_; (case hd => rfl); (case hg => rfl); (case hr => first | (go_simp; done) | (go_simp; rfl)); (case hp => exact (Reps.one (show Kd.FK (Kd.slice 3 (Kd.int .i64)) _ _ l2 [.slice A2 l2.length c2] from (Kd.FK_slice_mk (Kd.V_reads' (Kd.V_mono (ok' := (fun k_ => (P2_ k_ ∨ w.heap.size ≤ k_))) (HO2.out) (fun k_ hk => hk))).2.1 (Kd.V_F (Kd.V_mono (ok' := (fun k_ => (P2_ k_ ∨ w.heap.size ≤ k_))) (HO2.out) (fun k_ hk => hk))))) (Reps.none _ _))); intro v342 w24 ho25 hb hg_ hnew_; clear hg_ hnew_; (first | rw [← Ny341.out] at ho25 | (simp only [Int.reduceToNat] at ho25; rw [← Ny341.out] at ho25)); have n0_ := Aside0.mk (Kd.V_elder' (by (with_reducible repeat (first | apply Kd.V_alloc | apply Kd.V_drewN | apply Kd.V_drew)); exact HO2.out) (by first | exact Kd.N_base ho25 | exact Kd.S_base ho25 | exact Kd.R_base ho25) hb); have n1_ := Aside0.mk (Kd.N_lower ho25 (below_size (by repeat (first | (with_reducible first | exact HB.out | apply below_alloc | apply pw_below_drewN | apply below_drew1) | exact HB.out)))); have n2_ := Aside0.mk (below_step (by repeat (first | (with_reducible first | exact HB.out | apply below_alloc | apply pw_below_drewN | apply below_drew1) | exact HB.out)) hb); clear HO2; clear HB; have HO2 := n0_; have HO343 := n1_; have HB := n2_; clear n0_ n1_ n2_; clear hb ho25; obtain ⟨Ao26, co26, eo26⟩ := Kd.N_slice HO343.out; subst eo26) | (go_at_call 13; (with_reducible refine (galoislaw22_few.calls k _ _ y341 false _ ?side1 ?side2 A7.out).mono ?_); (case side1 => repeat (first | exact (Kd.N_reads' HO343.out).2.2 | (with_reducible refine Kd.C_alloc ?_ _) | (with_reducible refine Kd.C_drewN ?_ _) | (with_reducible refine Kd.C_drew ?_))); (case side2 => exact (Kd.N_reads' HO343.out).2.1); rintro e w' ⟨rfl, ⟨nd, rfl⟩⟩))
        go_meet
        case rel => exact ⟨_, (true), (by first | rfl | (simp; done) | (simp [*]; done)), H', ⟨by first | omega | exact Nat.le_refl _⟩, ⟨by (with_reducible repeat (first | apply Kd.V_alloc | apply Kd.V_drewN | apply Kd.V_drew)); exact Kd.V_mono HO2.out (fun _ hk => hk.1)⟩, ⟨by repeat (first | (with_reducible first | exact HB.out | apply below_alloc | apply pw_below_drewN | apply below_drew1) | exact HB.out)⟩⟩
    · replace c6 := Bool.eq_false_iff.mpr c6
      subst c6
      have H1 : (galoislaw22_PermTexts.j0 k a0 a1 l2 true) = some r := by rw [if_neg (show ¬ (false = true) by decide)] at H; exact H
      clear H
      have H := H1
      clear H1
      have H' := Aside0.mk H
      clear H
      go_wp2_with (first | ((with_reducible refine gate_callee (f := 12) rfl ?_); refine goesL_ (some 14) rfl rfl Tryd.func12 (by kernel_rfl) rfl #[] rfl (by (try simp only [List.map_toArray, List.map_cons, List.map_nil]); first | done | rfl | (simp only [List.length_drop, List.length_take]; rfl)) ?_; (with_reducible refine (galoislaw22_awake.calls k  false _ A5.out).mono ?_); rintro e w27 ⟨rfl, hb⟩; refine ⟨_, rfl, ?_⟩; have n0_ := Aside0.mk (Kd.V_below (by (with_reducible repeat (first | apply Kd.V_alloc | apply Kd.V_drewN | apply Kd.V_drew)); exact HO2.out) hb); have n1_ := Aside0.mk (below_step (by repeat (first | (with_reducible first | exact HB.out | apply below_alloc | apply pw_below_drewN | apply below_drew1) | exact HB.out)) hb); clear HO2; clear HB; have HO2 := n0_; have HB := n1_; clear n0_ n1_; (try clear hb); (try clear hb2); (try clear hk); (try clear hi)))
      go_meet
      case rel => exact ⟨_, (true), (by first | rfl | (simp; done) | (simp [*]; done)), H', ⟨by first | omega | exact Nat.le_refl _⟩, ⟨by (with_reducible repeat (first | apply Kd.V_alloc | apply Kd.V_drewN | apply Kd.V_drew)); exact HO2.out⟩, ⟨by repeat (first | (with_reducible first | exact HB.out | apply below_alloc | apply pw_below_drewN | apply below_drew1) | exact HB.out)⟩⟩
  case rest =>
    clear HC4
    try clear c1
    try clear c2
    try clear p2
    try clear c6
    try clear c8
    try clear c9
    try clear c9b0
    try clear c9b1
    try clear c10
    try clear c10b0
    try clear c10b1
    try clear c12
    obtain ⟨kq, x36_3, rfl, HA, HJ3, HO_2, HB⟩ := hcut
    cases kq with
    | zero => exact absurd HA.out (by simp [galoislaw22_PermTexts.j0])
    | succ kj3 =>
      have H := HA.out
      clear HA
      simp only [galoislaw22_PermTexts.j0] at H
      by_cases c28 : x36_3 = true
      · subst c28
        have H1 : ((galoislaw22_awake.f kj3).bind fun t345 => (some t345)) = some r := by rw [if_pos rfl] at H; exact H
        clear H
        have H := H1
        clear H1
        replace H := Option.bind_eq_some_iff.mp H
        obtain ⟨t345, A290, H⟩ := H
        replace H : (some t345) = some r := H
        have A29 := Aside0.mk A290
        clear A290
        obtain rfl := Option.some.inj H
        go_wp2_with (first | ((with_reducible refine gate_callee (f := 12) rfl ?_); refine goesL_ (some 37) rfl rfl Tryd.func12 (by kernel_rfl) rfl #[] rfl (by (try simp only [List.map_toArray, List.map_cons, List.map_nil]); first | done | rfl | (simp only [List.length_drop, List.length_take]; rfl)) ?_; (with_reducible refine (galoislaw22_awake.calls kj3  t345 _ A29.out).mono ?_); rintro e w30 ⟨rfl, hb⟩; refine ⟨_, rfl, ?_⟩; have n0_ := Aside0.mk (Kd.V_below (by (with_reducible repeat (first | apply Kd.V_alloc | apply Kd.V_drewN | apply Kd.V_drew)); exact HO_2.out) hb); have n1_ := Aside0.mk (below_step (by repeat (first | (with_reducible first | exact HB.out | apply below_alloc | apply pw_below_drewN | apply below_drew1) | exact HB.out)) hb); clear HO_2; clear HB; have HO_2 := n0_; have HB := n1_; clear n0_ n1_; (try clear hb); (try clear hb2); (try clear hk); (try clear hi)))
        go_ret
        exact ⟨by first | rfl | (simp [errW_none, errW_some] <;> rfl) | (simp [*, errW_none, errW_some] <;> rfl), by repeat (first | (with_reducible first | exact HB.out | apply below_alloc | apply pw_below_drewN | apply below_drew1) | exact HB.out)⟩
      · replace c28 := Bool.eq_false_iff.mpr c28
        subst c28
        have H1 : ((perm_Parse.f kj3 a0 a1).bind fun bt346 => ((galoisref22_Parse.f kj3 a0 a1).bind fun bt350 => (if bt346.2 = bt350.2 then ((galoisref22_Same.f kj3 bt346.1 bt350.1).bind fun t354 => (galoislaw22_PermTexts.j1 kj3 l2 (!t354))) else (galoislaw22_PermTexts.j1 kj3 l2 true)))) = some r := by rw [if_neg (show ¬ (false = true) by decide)] at H; exact H
        clear H
        have H := H1
        clear H1
        replace H := Option.bind_eq_some_iff.mp H
        obtain ⟨⟨t346, t347⟩, A310, H⟩ := H
        replace H : ((galoisref22_Parse.f kj3 a0 a1).bind fun bt350 => (if t347 = bt350.2 then ((galoisref22_Same.f kj3 t346 bt350.1).bind fun t354 => (galoislaw22_PermTexts.j1 kj3 l2 (!t354))) else (galoislaw22_PermTexts.j1 kj3 l2 true))) = some r := H
        have A31 := Aside0.mk A310
        clear A310
        replace H := Option.bind_eq_some_iff.mp H
        obtain ⟨⟨t350, t351⟩, A320, H⟩ := H
        replace H : (if t347 = t351 then ((galoisref22_Same.f kj3 t346 t350).bind fun t354 => (galoislaw22_PermTexts.j1 kj3 l2 (!t354))) else (galoislaw22_PermTexts.j1 kj3 l2 true)) = some r := H
        have A32 := Aside0.mk A320
        clear A320
        have HC33 := Aside0.mk H
        clear H
        go_upto_region 5 with (first | ((with_reducible refine gate_callee (f := 39) rfl ?_); refine goesL_ (some 41) rfl rfl Tryd.func39 (by kernel_rfl) rfl #[.int .i64 a0, .string a1] rfl (by (try simp only [List.map_toArray, List.map_cons, List.map_nil]); first | done | rfl | (simp only [List.length_drop, List.length_take]; rfl)) ?_; (with_reducible refine (perm_Parse.calls kj3 a0 a1 t346 t347 _ A31.out).mono ?_); rintro e w34 ⟨v348, rfl, ho0, hb⟩; refine ⟨_, rfl, ?_⟩; have n0_ := Aside0.mk (Kd.V_elder' (by (with_reducible repeat (first | apply Kd.V_alloc | apply Kd.V_drewN | apply Kd.V_drew)); exact HO_2.out) (Kd.R_base ho0) hb); have n1_ := Aside0.mk (Kd.R_lower (Kd.R_newM (M := fun k_ => (w.heap.size ≤ k_)) ho0 (below_size (by repeat (first | (with_reducible first | exact HB.out | apply below_alloc | apply pw_below_drewN | apply below_drew1) | exact HB.out))) (fun k_ h_ => h_)) (below_size (by repeat (first | (with_reducible first | exact HB.out | apply below_alloc | apply pw_below_drewN | apply below_drew1) | exact HB.out)))); have n2_ := Aside0.mk (below_step (by repeat (first | (with_reducible first | exact HB.out | apply below_alloc | apply pw_below_drewN | apply below_drew1) | exact HB.out)) hb); clear HO_2; clear HB; have HO_2 := n0_; have HO349 := n1_; have HB := n2_; clear n0_ n1_ n2_; (try clear hb); (try clear hb2); (try clear hk); (try clear hi); (try clear ho0)) | ((with_reducible refine gate_callee (f := 40) rfl ?_); refine goesL_ (some 47) rfl rfl Tryd.func40 (by kernel_rfl) rfl #[.int .i64 a0, .string a1] rfl (by (try simp only [List.map_toArray, List.map_cons, List.map_nil]); first | done | rfl | (simp only [List.length_drop, List.length_take]; rfl)) ?_; (with_reducible refine (galoisref22_Parse.calls kj3 a0 a1 t350 t351 _ A32.out).mono ?_); rintro e w35 ⟨v352, rfl, ho0, hb⟩; refine ⟨_, rfl, ?_⟩; have n0_ := Aside0.mk (Kd.V_elder' (by (with_reducible repeat (first | apply Kd.V_alloc | apply Kd.V_drewN | apply Kd.V_drew)); exact HO_2.out) (Kd.R_base ho0) hb); have n1_ := Aside0.mk (Kd.R_elder' (by (with_reducible repeat (first | apply Kd.R_alloc | apply Kd.R_drewN | apply Kd.R_drew)); exact HO349.out) (Kd.R_base ho0) hb); have n2_ := Aside0.mk (Kd.R_lower (Kd.R_new' (Kd.R_newM (M := fun k_ => (w.heap.size ≤ k_)) ho0 (below_size (by repeat (first | (with_reducible first | exact HB.out | apply below_alloc | apply pw_below_drewN | apply below_drew1) | exact HB.out))) (fun k_ h_ => h_)) (Kd.R_lt (by (with_reducible repeat (first | apply Kd.R_alloc | apply Kd.R_drewN | apply Kd.R_drew)); exact HO349.out))) (below_size (by repeat (first | (with_reducible first | exact HB.out | apply below_alloc | apply pw_below_drewN | apply below_drew1) | exact HB.out)))); have n3_ := Aside0.mk (below_step (by repeat (first | (with_reducible first | exact HB.out | apply below_alloc | apply pw_below_drewN | apply below_drew1) | exact HB.out)) hb); clear HO_2; clear HO349; clear HB; have HO_2 := n0_; have HO349 := n1_; have HO353 := n2_; have HB := n3_; clear n0_ n1_ n2_ n3_; (try clear hb); (try clear hb2); (try clear hk); (try clear hi); (try clear ho0)))
        (try simp only [Act.put, List.setIfInBounds_toArray, List.set_cons_zero, List.set_cons_succ])
        go_cut [58] (fun v58 wc => ∃ (kq : Nat) (x58_32 : Bool), v58 = .bool x58_32 ∧ Aside0 (galoislaw22_PermTexts.j1 kq l2 x58_32 = some r) ∧ Aside0 (kq ≤ kj3) ∧ Aside0 (Kd.V (Kd.int .i64) 3 wc w.heap.size (fun k_ => (P2_ k_ ∨ w.heap.size ≤ k_)) (.slice A2 l2.length c2) l2) ∧ Aside0 (Below w.heap.size w wc))
        case first =>
          have H := HC33.out
          clear HC33
          by_cases c36 : t347 = t351
          · rw [if_pos c36] at H
            have c36b0 : (t347 == t351) = true := beq_iff_eq.mpr c36
            have c36b1 : (t347 != t351) = false := bne_eq_false_iff_eq.mpr c36
            clear c36
            (first | rw [c36b0] | (simp only [i64_w, i32_w]; rw [c36b0]) | skip)
            replace H := Option.bind_eq_some_iff.mp H
            obtain ⟨t354, A370, H⟩ := H
            replace H : (galoislaw22_PermTexts.j1 kj3 l2 (!t354)) = some r := H
            have A37 := Aside0.mk A370
            clear A370
            have H' := Aside0.mk H
            clear H
            obtain ⟨Ao38, co38, eo38⟩ := Kd.R_slice HO349.out
            subst eo38
            obtain ⟨Ao39, co39, eo39⟩ := Kd.R_slice HO353.out
            subst eo39
            go_wp2_with (first | (go_at_call 19; (with_reducible refine (galoisref22_Same.calls kj3 _ _ t346 _ _ t350 t354 _ ?side1 ?side2 ?side3 ?side4 A37.out).mono ?_); (case side1 => repeat (first | exact (Kd.R_reads' HO349.out).2.2 | (with_reducible refine Kd.C_alloc ?_ _) | (with_reducible refine Kd.C_drewN ?_ _) | (with_reducible refine Kd.C_drew ?_))); (case side2 => exact (Kd.R_reads' HO349.out).2.1); (case side3 => repeat (first | exact (Kd.R_reads' HO353.out).2.2 | (with_reducible refine Kd.C_alloc ?_ _) | (with_reducible refine Kd.C_drewN ?_ _) | (with_reducible refine Kd.C_drew ?_))); (case side4 => exact (Kd.R_reads' HO353.out).2.1); rintro e w' ⟨rfl, ⟨nd, rfl⟩⟩))
            go_meet
            case rel => exact ⟨_, (!t354), (by first | rfl | (simp; done) | (simp [*]; done)), H', ⟨by have := HJ3.out; first | omega | exact Nat.le_refl _⟩, ⟨by (with_reducible repeat (first | apply Kd.V_alloc | apply Kd.V_drewN | apply Kd.V_drew)); exact Kd.V_mono HO_2.out (fun _ hk => hk.1.1)⟩, ⟨by repeat (first | (with_reducible first | exact HB.out | apply below_alloc | apply pw_below_drewN | apply below_drew1) | exact HB.out)⟩⟩
          · rw [if_neg c36] at H
            have c36b0 : (t347 == t351) = false := beq_eq_false_iff_ne.mpr c36
            have c36b1 : (t347 != t351) = true := bne_iff_ne.mpr c36
            (first | rw [c36b0] | (simp only [i64_w, i32_w]; rw [c36b0]) | skip)
            have H' := Aside0.mk H
            clear H
            go_wp2
            go_meet
            case rel => exact ⟨_, (true), (by first | rfl | (simp; done) | (simp [*]; done)), H', ⟨by have := HJ3.out; first | omega | exact Nat.le_refl _⟩, ⟨by (with_reducible repeat (first | apply Kd.V_alloc | apply Kd.V_drewN | apply Kd.V_drew)); exact Kd.V_mono HO_2.out (fun _ hk => hk.1.1)⟩, ⟨by repeat (first | (with_reducible first | exact HB.out | apply below_alloc | apply pw_below_drewN | apply below_drew1) | exact HB.out)⟩⟩
        case rest =>
          clear HC33
          try clear c1
          try clear c2
          try clear p2
          try clear c3
          try clear c4
          try clear c6
          try clear c8
          try clear c9
          try clear c9b0
          try clear c9b1
          try clear c10
          try clear c10b0
          try clear c10b1
          try clear c12
          try clear c28
          try clear c36
          try clear c36b0
          try clear c36b1
          try clear c39
          try clear p2
          obtain ⟨kq, x58_32, rfl, HA, HJ32, HO_2, HB⟩ := hcut
          cases kq with
          | zero => exact absurd HA.out (by simp [galoislaw22_PermTexts.j1])
          | succ kj32 =>
            have H := HA.out
            clear HA
            simp only [galoislaw22_PermTexts.j1] at H
            by_cases c40 : x58_32 = true
            · subst c40
              have H1 : (some false) = some r := by rw [if_pos rfl] at H; exact H
              clear H
              have H := H1
              clear H1
              obtain rfl := Option.some.inj H
              go_wp2
              go_ret
              exact ⟨by first | rfl | (simp [errW_none, errW_some] <;> rfl) | (simp [*, errW_none, errW_some] <;> rfl), by repeat (first | (with_reducible first | exact HB.out | apply below_alloc | apply pw_below_drewN | apply below_drew1) | exact HB.out)⟩
            · replace c40 := Bool.eq_false_iff.mpr c40
              subst c40
              have H1 : ((perm_Format.f kj32 l2).bind fun bt355 => ((galoisref22_Check.f kj32 l2).bind fun t357 => (if t357 = 0 then (if bt355.2 = 0 then ((galoisref22_Format.f kj32 l2).bind fun t358 => (some (bt355.1.toList == t358.toList))) else (some false)) else (if bt355.2 = t357 then (some (bt355.1.toList == ([] : List UInt8))) else (some false))))) = some r := by rw [if_neg (show ¬ (false = true) by decide)] at H; exact H
              clear H
              have H := H1
              clear H1
              replace H := Option.bind_eq_some_iff.mp H
              obtain ⟨⟨t355, t356⟩, A410, H⟩ := H
              replace H : ((galoisref22_Check.f kj32 l2).bind fun t357 => (if t357 = 0 then (if t356 = 0 then ((galoisref22_Format.f kj32 l2).bind fun t358 => (some (t355.toList == t358.toList))) else (some false)) else (if t356 = t357 then (some (t355.toList == ([] : List UInt8))) else (some false)))) = some r := H
              have A41 := Aside0.mk A410
              clear A410
              replace H := Option.bind_eq_some_iff.mp H
              obtain ⟨t357, A420, H⟩ := H
              replace H : (if t357 = 0 then (if t356 = 0 then ((galoisref22_Format.f kj32 l2).bind fun t358 => (some (t355.toList == t358.toList))) else (some false)) else (if t356 = t357 then (some (t355.toList == ([] : List UInt8))) else (some false))) = some r := H
              have A42 := Aside0.mk A420
              clear A420
              by_cases c43 : t357 = 0
              · rw [if_pos c43] at H
                have c43b0 : (t357 == 0) = true := beq_iff_eq.mpr c43
                have c43b1 : (t357 != 0) = false := bne_eq_false_iff_eq.mpr c43
                clear c43
                by_cases c44 : t356 = 0
                · rw [if_pos c44] at H
                  have c44b0 : (t356 == 0) = true := beq_iff_eq.mpr c44
                  have c44b1 : (t356 != 0) = false := bne_eq_false_iff_eq.mpr c44
                  clear c44
                  replace H := Option.bind_eq_some_iff.mp H
                  obtain ⟨t358, A450, H⟩ := H
                  replace H : (some (t355.toList == t358.toList)) = some r := H
                  have A45 := Aside0.mk A450
                  clear A450
                  obtain rfl := Option.some.inj H
                  go_wp2_with (first | ((with_reducible refine gate_callee (f := 41) rfl ?_); refine goesL_ (some 61) rfl rfl Tryd.func41 (by kernel_rfl) rfl #[.slice A2 l2.length c2] rfl (by (try simp only [List.map_toArray, List.map_cons, List.map_nil]); first | done | rfl | (simp only [List.length_drop, List.length_take]; rfl)) ?_; (with_reducible refine (perm_Format.calls kj32 _ _ l2 t355 t356 _ ?side1 ?side2 A41.out).mono ?_); (case side1 => repeat (first | exact (Kd.V_reads' HO_2.out).2.2 | (with_reducible refine Kd.C_alloc ?_ _) | (with_reducible refine Kd.C_drewN ?_ _) | (with_reducible refine Kd.C_drew ?_))); (case side2 => exact (Kd.V_reads' HO_2.out).2.1); rintro e w46 ⟨rfl, hb⟩; refine ⟨_, rfl, ?_⟩; have n0_ := Aside0.mk (Kd.V_below (by (with_reducible repeat (first | apply Kd.V_alloc | apply Kd.V_drewN | apply Kd.V_drew)); exact HO_2.out) hb); have n1_ := Aside0.mk (below_step (by repeat (first | (with_reducible first | exact HB.out | apply below_alloc | apply pw_below_drewN | apply below_drew1) | exact HB.out)) hb); clear HO_2; clear HB; have HO_2 := n0_; have HB := n1_; clear n0_ n1_; (try clear hb); (try clear hb2); (try clear hk); (try clear hi)) | ((with_reducible refine gate_callee (f := 14) rfl ?_); refine goesL_ (some 65) rfl rfl Tryd.func14 (by kernel_rfl) rfl #[.slice A2 l2.length c2] rfl (by (try simp only [List.map_toArray, List.map_cons, List.map_nil]); first | done | rfl | (simp only [List.length_drop, List.length_take]; rfl)) ?_; (with_reducible refine (galoisref22_Check.calls kj32 _ _ l2 t357 _ ?side1 ?side2 A42.out).mono ?_); (case side1 => repeat (first | exact (Kd.V_reads' HO_2.out).2.2 | (with_reducible refine Kd.C_alloc ?_ _) | (with_reducible refine Kd.C_drewN ?_ _) | (with_reducible refine Kd.C_drew ?_))); (case side2 => exact (Kd.V_reads' HO_2.out).2.1); rintro e w' ⟨rfl, ⟨nd, rfl⟩⟩; refine ⟨_, rfl, ?_⟩) | (go_at_call 42; (with_reducible refine (galoisref22_Format.calls kj32 _ _ l2 t358 _ ?side1 ?side2 A45.out).mono ?_); (case side1 => repeat (first | exact (Kd.V_reads' HO_2.out).2.2 | (with_reducible refine Kd.C_alloc ?_ _) | (with_reducible refine Kd.C_drewN ?_ _) | (with_reducible refine Kd.C_drew ?_))); (case side2 => exact (Kd.V_reads' HO_2.out).2.1); rintro e w47 ⟨rfl, hb⟩; have n0_ := Aside0.mk (Kd.V_below (by (with_reducible repeat (first | apply Kd.V_alloc | apply Kd.V_drewN | apply Kd.V_drew)); exact HO_2.out) hb); have n1_ := Aside0.mk (below_step (by repeat (first | (with_reducible first | exact HB.out | apply below_alloc | apply pw_below_drewN | apply below_drew1) | exact HB.out)) hb); clear HO_2; clear HB; have HO_2 := n0_; have HB := n1_; clear n0_ n1_; (try clear hb); (try clear hb2); (try clear hk); (try clear hi)))
                  go_ret
                  exact ⟨by first | rfl | (simp [errW_none, errW_some] <;> rfl) | (simp [*, errW_none, errW_some] <;> rfl), by repeat (first | (with_reducible first | exact HB.out | apply below_alloc | apply pw_below_drewN | apply below_drew1) | exact HB.out)⟩
                · rw [if_neg c44] at H
                  have c44b0 : (t356 == 0) = false := beq_eq_false_iff_ne.mpr c44
                  have c44b1 : (t356 != 0) = true := bne_iff_ne.mpr c44
                  obtain rfl := Option.some.inj H
                  go_wp2_with (first | ((with_reducible refine gate_callee (f := 41) rfl ?_); refine goesL_ (some 61) rfl rfl Tryd.func41 (by kernel_rfl) rfl #[.slice A2 l2.length c2] rfl (by (try simp only [List.map_toArray, List.map_cons, List.map_nil]); first | done | rfl | (simp only [List.length_drop, List.length_take]; rfl)) ?_; (with_reducible refine (perm_Format.calls kj32 _ _ l2 t355 t356 _ ?side1 ?side2 A41.out).mono ?_); (case side1 => repeat (first | exact (Kd.V_reads' HO_2.out).2.2 | (with_reducible refine Kd.C_alloc ?_ _) | (with_reducible refine Kd.C_drewN ?_ _) | (with_reducible refine Kd.C_drew ?_))); (case side2 => exact (Kd.V_reads' HO_2.out).2.1); rintro e w48 ⟨rfl, hb⟩; refine ⟨_, rfl, ?_⟩; have n0_ := Aside0.mk (Kd.V_below (by (with_reducible repeat (first | apply Kd.V_alloc | apply Kd.V_drewN | apply Kd.V_drew)); exact HO_2.out) hb); have n1_ := Aside0.mk (below_step (by repeat (first | (with_reducible first | exact HB.out | apply below_alloc | apply pw_below_drewN | apply below_drew1) | exact HB.out)) hb); clear HO_2; clear HB; have HO_2 := n0_; have HB := n1_; clear n0_ n1_; (try clear hb); (try clear hb2); (try clear hk); (try clear hi)) | ((with_reducible refine gate_callee (f := 14) rfl ?_); refine goesL_ (some 65) rfl rfl Tryd.func14 (by kernel_rfl) rfl #[.slice A2 l2.length c2] rfl (by (try simp only [List.map_toArray, List.map_cons, List.map_nil]); first | done | rfl | (simp only [List.length_drop, List.length_take]; rfl)) ?_; (with_reducible refine (galoisref22_Check.calls kj32 _ _ l2 t357 _ ?side1 ?side2 A42.out).mono ?_); (case side1 => repeat (first | exact (Kd.V_reads' HO_2.out).2.2 | (with_reducible refine Kd.C_alloc ?_ _) | (with_reducible refine Kd.C_drewN ?_ _) | (with_reducible refine Kd.C_drew ?_))); (case side2 => exact (Kd.V_reads' HO_2.out).2.1); rintro e w' ⟨rfl, ⟨nd, rfl⟩⟩; refine ⟨_, rfl, ?_⟩))
                  go_ret
                  exact ⟨by first | rfl | (simp [errW_none, errW_some] <;> rfl) | (simp [*, errW_none, errW_some] <;> rfl), by repeat (first | (with_reducible first | exact HB.out | apply below_alloc | apply pw_below_drewN | apply below_drew1) | exact HB.out)⟩
              · rw [if_neg c43] at H
                have c43b0 : (t357 == 0) = false := beq_eq_false_iff_ne.mpr c43
                have c43b1 : (t357 != 0) = true := bne_iff_ne.mpr c43
                by_cases c49 : t356 = t357
                · rw [if_pos c49] at H
                  have c49b0 : (t356 == t357) = true := beq_iff_eq.mpr c49
                  have c49b1 : (t356 != t357) = false := bne_eq_false_iff_eq.mpr c49
                  clear c49
                  obtain rfl := Option.some.inj H
                  go_wp2_with (first | ((with_reducible refine gate_callee (f := 41) rfl ?_); refine goesL_ (some 61) rfl rfl Tryd.func41 (by kernel_rfl) rfl #[.slice A2 l2.length c2] rfl (by (try simp only [List.map_toArray, List.map_cons, List.map_nil]); first | done | rfl | (simp only [List.length_drop, List.length_take]; rfl)) ?_; (with_reducible refine (perm_Format.calls kj32 _ _ l2 t355 t356 _ ?side1 ?side2 A41.out).mono ?_); (case side1 => repeat (first | exact (Kd.V_reads' HO_2.out).2.2 | (with_reducible refine Kd.C_alloc ?_ _) | (with_reducible refine Kd.C_drewN ?_ _) | (with_reducible refine Kd.C_drew ?_))); (case side2 => exact (Kd.V_reads' HO_2.out).2.1); rintro e w50 ⟨rfl, hb⟩; refine ⟨_, rfl, ?_⟩; have n0_ := Aside0.mk (Kd.V_below (by (with_reducible repeat (first | apply Kd.V_alloc | apply Kd.V_drewN | apply Kd.V_drew)); exact HO_2.out) hb); have n1_ := Aside0.mk (below_step (by repeat (first | (with_reducible first | exact HB.out | apply below_alloc | apply pw_below_drewN | apply below_drew1) | exact HB.out)) hb); clear HO_2; clear HB; have HO_2 := n0_; have HB := n1_; clear n0_ n1_; (try clear hb); (try clear hb2); (try clear hk); (try clear hi)) | ((with_reducible refine gate_callee (f := 14) rfl ?_); refine goesL_ (some 65) rfl rfl Tryd.func14 (by kernel_rfl) rfl #[.slice A2 l2.length c2] rfl (by (try simp only [List.map_toArray, List.map_cons, List.map_nil]); first | done | rfl | (simp only [List.length_drop, List.length_take]; rfl)) ?_; (with_reducible refine (galoisref22_Check.calls kj32 _ _ l2 t357 _ ?side1 ?side2 A42.out).mono ?_); (case side1 => repeat (first | exact (Kd.V_reads' HO_2.out).2.2 | (with_reducible refine Kd.C_alloc ?_ _) | (with_reducible refine Kd.C_drewN ?_ _) | (with_reducible refine Kd.C_drew ?_))); (case side2 => exact (Kd.V_reads' HO_2.out).2.1); rintro e w' ⟨rfl, ⟨nd, rfl⟩⟩; refine ⟨_, rfl, ?_⟩))
                  go_ret
                  exact ⟨by first | rfl | (simp [errW_none, errW_some] <;> rfl) | (simp [*, errW_none, errW_some] <;> rfl), by repeat (first | (with_reducible first | exact HB.out | apply below_alloc | apply pw_below_drewN | apply below_drew1) | exact HB.out)⟩
                · rw [if_neg c49] at H
                  have c49b0 : (t356 == t357) = false := beq_eq_false_iff_ne.mpr c49
                  have c49b1 : (t356 != t357) = true := bne_iff_ne.mpr c49
                  obtain rfl := Option.some.inj H
                  go_wp2_with (first | ((with_reducible refine gate_callee (f := 41) rfl ?_); refine goesL_ (some 61) rfl rfl Tryd.func41 (by kernel_rfl) rfl #[.slice A2 l2.length c2] rfl (by (try simp only [List.map_toArray, List.map_cons, List.map_nil]); first | done | rfl | (simp only [List.length_drop, List.length_take]; rfl)) ?_; (with_reducible refine (perm_Format.calls kj32 _ _ l2 t355 t356 _ ?side1 ?side2 A41.out).mono ?_); (case side1 => repeat (first | exact (Kd.V_reads' HO_2.out).2.2 | (with_reducible refine Kd.C_alloc ?_ _) | (with_reducible refine Kd.C_drewN ?_ _) | (with_reducible refine Kd.C_drew ?_))); (case side2 => exact (Kd.V_reads' HO_2.out).2.1); rintro e w51 ⟨rfl, hb⟩; refine ⟨_, rfl, ?_⟩; have n0_ := Aside0.mk (Kd.V_below (by (with_reducible repeat (first | apply Kd.V_alloc | apply Kd.V_drewN | apply Kd.V_drew)); exact HO_2.out) hb); have n1_ := Aside0.mk (below_step (by repeat (first | (with_reducible first | exact HB.out | apply below_alloc | apply pw_below_drewN | apply below_drew1) | exact HB.out)) hb); clear HO_2; clear HB; have HO_2 := n0_; have HB := n1_; clear n0_ n1_; (try clear hb); (try clear hb2); (try clear hk); (try clear hi)) | ((with_reducible refine gate_callee (f := 14) rfl ?_); refine goesL_ (some 65) rfl rfl Tryd.func14 (by kernel_rfl) rfl #[.slice A2 l2.length c2] rfl (by (try simp only [List.map_toArray, List.map_cons, List.map_nil]); first | done | rfl | (simp only [List.length_drop, List.length_take]; rfl)) ?_; (with_reducible refine (galoisref22_Check.calls kj32 _ _ l2 t357 _ ?side1 ?side2 A42.out).mono ?_); (case side1 => repeat (first | exact (Kd.V_reads' HO_2.out).2.2 | (with_reducible refine Kd.C_alloc ?_ _) | (with_reducible refine Kd.C_drewN ?_ _) | (with_reducible refine Kd.C_drew ?_))); (case side2 => exact (Kd.V_reads' HO_2.out).2.1); rintro e w' ⟨rfl, ⟨nd, rfl⟩⟩; refine ⟨_, rfl, ?_⟩))
                  go_ret
                  exact ⟨by first | rfl | (simp [errW_none, errW_some] <;> rfl) | (simp [*, errW_none, errW_some] <;> rfl), by repeat (first | (with_reducible first | exact HB.out | apply below_alloc | apply pw_below_drewN | apply below_drew1) | exact HB.out)⟩

/-- THE ONE PURE STATEMENT of galoislaw22_PermTexts: yours. -/
def galoislaw22_PermTexts.Pure : Prop := ∀ (a0 : Int) (a1 : ByteArray) (l2 : List Int), (Lit.int .i64 a0).wf = true → a1.size ≤ 140737488351232 → l2.length ≤ maxLen → l2.length * 8 ≤ 140737488351232 → (∀ x ∈ l2, (Lit.int .i64 x).wf = true) → ∃ k, galoislaw22_PermTexts.f k a0 a1 l2 = some true
theorem galoislaw22_PermTexts.walk (P : galoislaw22_PermTexts.Pure) (a0 : Int) (a1 : ByteArray) (a2 : Option Addr) (len2 cap2 : Nat) (z2 : List Int) (w : World) (w0 : (Lit.int .i64 a0).wf = true) (w1 : a1.size ≤ 140737488351232) (w2 : (a2 = none ∧ len2 = 0 ∧ cap2 = 0 ∧ z2 = []) ∨ ∃ x, a2 = some x ∧ len2 ≤ cap2 ∧ cap2 ≤ maxLen ∧ z2.length = cap2 ∧ (∀ i, i < z2.length → w.cell? (x.add i) = some (.int .i64 (z2.getD i 0))) ∧ ∀ n ∈ z2, (Lit.int .i64 n).wf = true) (y2 : len2 * 8 ≤ 140737488351232) :
    Calls Tryd.prog 8 #[.int .i64 a0, .string a1, .slice a2 len2 cap2] w fun e w' => e = .returned (.bool true) ∧ Below w.heap.size w w' := by
  obtain ⟨l2, rfl, hr2, hm2, hw2, hc2⟩ := ReadsInt.ofRowC w2
  obtain ⟨k, h⟩ := P a0 a1 l2 w0 w1 hm2 y2 hw2
  refine (galoislaw22_PermTexts.calls k a0 a1 (fun k_ => k_ < w.heap.size) _ _ l2 true w (Kd.V_mk hc2 (Kd.C_F (Kd.heap_int .i64) (Kd.C_of_reads (d := (0 : Int)) (h1 := fun _ => rfl) hr2))) h).mono ?_
  rintro e w' ⟨rfl, hd⟩
  exact ⟨rfl, hd⟩

end Go.Proofs.YtoaalfpfklchfaaDoor.PPermTexts
