-- Printed.
import Derived.Test.YtmbldnoepjmhhaaZPermgroupFormsMg0
import Derived.Test.YtmbldnoepjmhhaaZPermgroupFormsPRfx0
namespace Go.Proofs.Ytmbldnoepjmhhaa.PRf
open Go.RowKit Go.Proofs.YtmbldnoepjmhhaaW.PrintWords Go.Proofs.YtmbldnoepjmhhaaW.PrintLast Go.Proofs.YtmbldnoepjmhhaaW.PrintMore Go.Proofs.Ytmbldnoepjmhhaa.PAll
attribute [local go_sem] max2_int min2_int max_two min_two max_three min_three max_four min_four
set_option linter.unusedVariables false
set_option linter.unusedSimpArgs false
mutual
def galoisref23_Fixing.l0 : Nat → List (List Int) → List Int → List (List Int) → Int → Option ((List (List Int)))
 | 0, _, _, _, _ => none
 | k + 1, x0, x1, x5, x6 => if x6 < (x0.length : Int) then (galoisref23_Fixing.l1 k x0 x1 x5 x6 true 0) else (some x5)
def galoisref23_Fixing.l1 : Nat → List (List Int) → List Int → List (List Int) → Int → Bool → Int → Option ((List (List Int)))
 | 0, _, _, _, _, _, _ => none
 | k + 1, x0, x1, x5, x6, x7, x8 => if x8 < (x1.length : Int) then (if x7 = true then (if 0 ≤ x6 then (if x6 < (x0.length : Int) then (if 0 ≤ x8 then (if 0 ≤ (rd x1 x8) then (if (rd x1 x8) < ((rd_L1 x0 x6).length : Int) then (galoisref23_Fixing.l1 k x0 x1 x5 x6 ((rd (rd_L1 x0 x6) (rd x1 x8)) == (rd x1 x8)) (wrap64 (x8 + 1))) else (none)) else (none)) else (none)) else (none)) else (none)) else (galoisref23_Fixing.l1 k x0 x1 x5 x6 false (wrap64 (x8 + 1)))) else (if x7 = true then (if 0 ≤ x6 then (if x6 < (x0.length : Int) then (if x5.length < 5864062014805 then (galoisref23_Fixing.l0 k x0 x1 (x5 ++ [rd_L1 x0 x6]) (wrap64 (x6 + 1))) else (none)) else (none)) else (none)) else (galoisref23_Fixing.l0 k x0 x1 x5 (wrap64 (x6 + 1))))
end
def galoisref23_Fixing.f (k : Nat) (l0 : List (List Int)) (l1 : List Int) : Option ((List (List Int))) := galoisref23_Fixing.l0 k l0 l1 ([] : List (List Int)) 0
theorem galoisref23_Fixing.mono_l : ∀ k, (∀ y0 y1 y2 y3, LeO (galoisref23_Fixing.l0 k y0 y1 y2 y3) (galoisref23_Fixing.l0 (k + 1) y0 y1 y2 y3)) ∧ (∀ y0 y1 y2 y3 y4 y5, LeO (galoisref23_Fixing.l1 k y0 y1 y2 y3 y4 y5) (galoisref23_Fixing.l1 (k + 1) y0 y1 y2 y3 y4 y5))
 | 0 => ⟨fun _ _ _ _ r h => by simp [galoisref23_Fixing.l0] at h, fun _ _ _ _ _ _ r h => by simp [galoisref23_Fixing.l1] at h⟩
 | k + 1 => by
  obtain ⟨ih0, ih1⟩ := galoisref23_Fixing.mono_l k
  refine ⟨?_, ?_⟩
  ·intro y0 y1 y2 y3
   unfold galoisref23_Fixing.l0
   repeat' first
   | (with_reducible exact ih0 _ _ _ _)
   | (with_reducible exact ih1 _ _ _ _ _ _)
   | (with_reducible exact LeO.refl _)
   | (with_reducible exact LeO.none _)
   | (with_reducible refine LeO.ite ?_ ?_)
   | (with_reducible refine LeO.bind ?_ (fun _ => ?_))
   | exact ih0 _ _ _ _
   | exact ih1 _ _ _ _ _ _
   | exact LeO.none _
   | refine LeO.ite ?_ ?_
   | refine LeO.bind ?_ (fun _ => ?_)
  ·intro y0 y1 y2 y3 y4 y5
   unfold galoisref23_Fixing.l1
   repeat' first
   | (with_reducible exact ih0 _ _ _ _)
   | (with_reducible exact ih1 _ _ _ _ _ _)
   | (with_reducible exact LeO.refl _)
   | (with_reducible exact LeO.none _)
   | (with_reducible refine LeO.ite ?_ ?_)
   | (with_reducible refine LeO.bind ?_ (fun _ => ?_))
   | exact ih0 _ _ _ _
   | exact ih1 _ _ _ _ _ _
   | exact LeO.none _
   | refine LeO.ite ?_ ?_
   | refine LeO.bind ?_ (fun _ => ?_)
theorem galoisref23_Fixing.mono : ∀ a0 a1 k, LeO (galoisref23_Fixing.f k a0 a1) (galoisref23_Fixing.f (k + 1) a0 a1) := by
 intro a0 a1 k
 obtain ⟨ih0, ih1⟩ := galoisref23_Fixing.mono_l k
 unfold galoisref23_Fixing.f
 repeat' first
   | (with_reducible exact ih0 _ _ _ _)
   | (with_reducible exact ih1 _ _ _ _ _ _)
   | (with_reducible exact LeO.refl _)
   | (with_reducible exact LeO.none _)
   | (with_reducible refine LeO.ite ?_ ?_)
   | (with_reducible refine LeO.bind ?_ (fun _ => ?_))
   | exact ih0 _ _ _ _
   | exact ih1 _ _ _ _ _ _
   | exact LeO.none _
   | refine LeO.ite ?_ ?_
   | refine LeO.bind ?_ (fun _ => ?_)
set_option maxHeartbeats 8000000 in
set_option maxRecDepth 100000 in
theorem galoisref23_Fixing.calls (k : Nat) (P0_ : Nat → Prop) (A0 : Option Addr) (c0 : Nat) (l0 : List (List Int)) (A1 : Option Addr) (c1 : Nat) (l1 : List Int) (r : List (List Int)) (w : World) (hs0 : Kd.V (Kd.slice 3 (Kd.int .i64)) 49 w w.heap.size (fun k_ => P0_ k_) (.slice A0 l0.length c0) l0) (hr1 : Kd.C (Kd.int .i64) w A1 l1.length l1) (hc1 : l1.length ≤ c1) (h : galoisref23_Fixing.f k l0 l1 = some r) :
  Calls Try.prog 93 #[.slice A0 l0.length c0, .slice A1 l1.length c1] w fun e w' => ∃ v0_ : Value, e = .returned (v0_) ∧ Kd.N (Kd.slice 3 (Kd.int .i64)) 49 w' w.heap.size (fun k_ => (P0_ k_ ∨ w.heap.size ≤ k_)) v0_ r ∧ Below w.heap.size w w' := by
 have HO0 := Aside0.mk (show Kd.V (Kd.slice 3 (Kd.int .i64)) 49 w w.heap.size (fun k_ => (P0_ k_ ∨ w.heap.size ≤ k_)) (.slice A0 l0.length c0) l0 from Kd.V_mono hs0 (fun k_ hk => .inl hk))
 have HR1 := Aside0.mk hr1
 have HC1 := Aside0.mk hc1
 clear hr1 hc1
 have HB := Aside0.mk (Below.refl w.heap.size w)
 have H : (galoisref23_Fixing.l0 k l0 l1 ([] : List (List Int)) 0) = some r := h
 clear h
 have H' := Aside0.mk H
 clear H
 go_enter Try.func93, Try.ntmps93
 go_wp2
 repeat (go_quiet (fail);try go_wp2)
 go_loopg [5, 6] k (fun kq v5 v6 w' => ∃ (x5_1 : List (List Int)) (x6_1 : Int), v6 = .int .i64 x6_1 ∧ Aside0 (galoisref23_Fixing.l0 kq l0 l1 x5_1 x6_1 = some r) ∧ Aside0 (kq ≤ k) ∧ Aside0 (Kd.V (Kd.slice 3 (Kd.int .i64)) 49 w' w.heap.size (fun k_ => (P0_ k_ ∨ w.heap.size ≤ k_) ∧ some k_ ≠ (v5 : Value).ownBlock) (.slice A0 l0.length c0) l0) ∧ Aside0 (Kd.N (Kd.slice 3 (Kd.int .i64)) 49 w' w.heap.size (fun k_ => (P0_ k_ ∨ w.heap.size ≤ k_)) v5 x5_1) ∧ Aside0 (Below w.heap.size w w'))
 case atStart => exact ⟨(([] : List (List Int))), (0), (by first | rfl | (simp;done) | (simp [*];done)), H', ⟨Nat.le_refl _⟩, ⟨by (with_reducible repeat (first|apply Kd.V_alloc | apply Kd.V_drewN | apply Kd.V_drew));exact Kd.V_mono HO0.out (fun _ hk => ⟨hk, (by simp [Value.ownBlock])⟩)⟩, ⟨by first | exact Kd.S_nil _ _ _ _ _ | exact Kd.N_nil _ _ _ _ _ | exact Kd.V_nil _ _ _ _ _ | exact Kd.Q_nil _ _ _ _ _ | exact Kd.R_nil _ _ _ _ _⟩, ⟨bel HB.out⟩⟩
 case round =>
  clear H'
  try clear c1
  try clear p2
  obtain ⟨x5_1, x6_1, rfl, HA, HK1, HO_0, HO_5, HB⟩ := hrel
  cases gk with
  | zero => exact absurd HA.out (by simp [galoisref23_Fixing.l0])
  | succ k1 =>
   have H := HA.out
   clear HA
   simp only [galoisref23_Fixing.l0] at H
   by_cases c3 : x6_1 < (l0.length : Int)
   ·rw [if_pos c3] at H
    have c3b0 : decide (x6_1 < (l0.length : Int)) = true := decide_eq_true c3
    clear c3
    have H' := Aside0.mk H
    clear H
    go_wp2
    repeat (go_quiet (fail);try go_wp2)
    go_loopg [7, 8] k1 (fun kq v7 v8 w' => ∃ (x7_2 : Bool) (x8_2 : Int), v7 = .bool x7_2 ∧ v8 = .int .i64 x8_2 ∧ Aside0 (galoisref23_Fixing.l1 kq l0 l1 x5_1 x6_1 x7_2 x8_2 = some r) ∧ Aside0 (kq ≤ k1) ∧ Aside0 (Kd.V (Kd.slice 3 (Kd.int .i64)) 49 w' w.heap.size (fun k_ => (P0_ k_ ∨ w.heap.size ≤ k_) ∧ some k_ ≠ (u5 : Value).ownBlock) (.slice A0 l0.length c0) l0) ∧ Aside0 (Kd.N (Kd.slice 3 (Kd.int .i64)) 49 w' w.heap.size (fun k_ => (P0_ k_ ∨ w.heap.size ≤ k_)) u5 x5_1) ∧ Aside0 (Below w.heap.size w w'))
    case atStart => exact ⟨(true), (0), (by first | rfl | (simp;done) | (simp [*];done)), (by first | rfl | (simp;done) | (simp [*];done)), H', ⟨Nat.le_refl _⟩, ⟨Vst HO_0.out⟩, ⟨Nst HO_5.out⟩, ⟨bel HB.out⟩⟩
    case round =>
     clear H'
     try clear c1
     try clear p2
     try clear c3
     try clear c3b0
     try clear p2
     obtain ⟨x7_2, x8_2, rfl, rfl, HA, HK2, HO_0, HO_5, HB⟩ := hrel
     cases gk with
     | zero => exact absurd HA.out (by simp [galoisref23_Fixing.l1])
     | succ k2 =>
      have H := HA.out
      clear HA
      simp only [galoisref23_Fixing.l1] at H
      by_cases c4 : x8_2 < (l1.length : Int)
      ·rw [if_pos c4] at H
       have c4b0 : decide (x8_2 < (l1.length : Int)) = true := decide_eq_true c4
       clear c4
       by_cases c5 : x7_2 = true
       ·subst c5
        have H1 : (if 0 ≤ x6_1 then (if x6_1 < (l0.length : Int) then (if 0 ≤ x8_2 then (if 0 ≤ (rd l1 x8_2) then (if (rd l1 x8_2) < ((rd_L1 l0 x6_1).length : Int) then (galoisref23_Fixing.l1 k2 l0 l1 x5_1 x6_1 ((rd (rd_L1 l0 x6_1) (rd l1 x8_2)) == (rd l1 x8_2)) (wrap64 (x8_2 + 1))) else (none)) else (none)) else (none)) else (none)) else (none)) = some r := by rw [if_pos rfl] at H;exact H
        clear H
        have H := H1
        clear H1
        by_cases c6 : 0 ≤ x6_1
        ·rw [if_pos c6] at H
         have c6b0 : decide (0 ≤ x6_1) = true := decide_eq_true c6
         clear c6
         by_cases c7 : x6_1 < (l0.length : Int)
         ·rw [if_pos c7] at H
          have c7b0 : decide (x6_1 < (l0.length : Int)) = true := decide_eq_true c7
          clear c7
          by_cases c8 : 0 ≤ x8_2
          ·rw [if_pos c8] at H
           have c8b0 : decide (0 ≤ x8_2) = true := decide_eq_true c8
           clear c8
           by_cases c9 : 0 ≤ (rd l1 x8_2)
           ·rw [if_pos c9] at H
            have c9b0 : decide (0 ≤ (rd l1 x8_2)) = true := decide_eq_true c9
            clear c9
            by_cases c10 : (rd l1 x8_2) < ((rd_L1 l0 x6_1).length : Int)
            ·rw [if_pos c10] at H
             have c10b0 : decide ((rd l1 x8_2) < ((rd_L1 l0 x6_1).length : Int)) = true := decide_eq_true c10
             clear c10
             have H' := Aside0.mk H
             clear H
             have p160 : 0 ≤ (x6_1 : Int) := of_decide_eq_true (by assumption)
             have q160 : x6_1 < (l0.length : Int) := of_decide_eq_true (by assumption)
             obtain ⟨ad160, A160_0, c160_0, e160, hx160_0, hl160_0, hi160_0⟩ := at_L1 (Kd.V_reads' HO_0.out).2.2 x6_1 p160 q160
             cases e160
             obtain ⟨ce160, hce160, hMe160, hcc160⟩ := Kd.V_get HO_0.out [] x6_1 p160 (by first | exact q160 | exact of_decide_eq_true (by assumption) | (have e_ := (Kd.V_reads' HO_0.out).1;omega))
             obtain ⟨ua160_0, uc160_0, rfl, ul160_0, ge160_0⟩ := Kd.FK_slice_open hMe160
             have hv160_0 := hcc160 0 _ rfl
             rw [Nat.add_zero, show ((Kd.slice 3 (Kd.int .i64))).sz = 1 from rfl, Nat.mul_one] at hv160_0
             replace hv160_0 := Option.some.inj (hv160_0.symm.trans hx160_0)
             injection hv160_0 with hva_ hvn_ hvc_
             rw [hva_] at ge160_0
             rw [hvc_] at ul160_0
             have HL160_0 := Aside0.mk (show Kd.V (Kd.int .i64) 3 _ w.heap.size _ _ (rd_L1 l0 x6_1) from Kd.V_mk ul160_0 ge160_0)
             clear hva_ hvn_ hvc_ ge160_0 ul160_0
             clear hcc160 hce160
             have HR160_0 := Aside0.mk hi160_0
             have HC160_0 := Aside0.mk hl160_0
             clear hi160_0 hl160_0
             replace p160 := eq_true p160
             replace q160 := eq_true q160
             have p161 : 0 ≤ (x8_2 : Int) := of_decide_eq_true (by assumption)
             have q161 : x8_2 < (l1.length : Int) := of_decide_eq_true (by assumption)
             obtain ⟨ad161, e161, hx161_0⟩ := Kd.at_int HR1.out x8_2 p161 q161
             cases e161
             try (replace hx161_0 := (HB.out.cell (World.block_lt_of_cell? w _ hx161_0)).trans hx161_0)
             replace p161 := eq_true p161
             replace q161 := eq_true q161
             have p162 : 0 ≤ ((rd l1 x8_2) : Int) := of_decide_eq_true (by assumption)
             have q162 : (rd l1 x8_2) < ((rd_L1 l0 x6_1).length : Int) := of_decide_eq_true (by assumption)
             obtain ⟨ad162, e162, hx162_0⟩ := Kd.at_int (by repeat (first|(with_reducible exact HR160_0.out) | (with_reducible refine Kd.C_alloc ?_ _) | (with_reducible refine Kd.C_drewN ?_ _) | (with_reducible refine Kd.C_drew ?_) | exact HR160_0.out)) (rd l1 x8_2) p162 q162
             cases e162
             replace p162 := eq_true p162
             replace q162 := eq_true q162
             have p163 : 0 ≤ (x8_2 : Int) := of_decide_eq_true (by assumption)
             have q163 : x8_2 < (l1.length : Int) := of_decide_eq_true (by assumption)
             obtain ⟨ad163, e163, hx163_0⟩ := Kd.at_int HR1.out x8_2 p163 q163
             obtain rfl : ad161 = ad163 := (by injection e163)
             try (replace hx163_0 := (HB.out.cell (World.block_lt_of_cell? w _ hx163_0)).trans hx163_0)
             replace p163 := eq_true p163
             replace q163 := eq_true q163
             go_wp2
             first | (with_reducible show Handed _ _ _ _) | (repeat (go_quiet (fail);try go_wp2))
             go_roundg k2
             case measure => have := HK1.out;have := HK2.out;omega
             case rel => exact ⟨(((rd (rd_L1 l0 x6_1) (rd l1 x8_2)) == (rd l1 x8_2))), (wrap64 (x8_2 + 1)), (by first | rfl | (simp;done) | (simp [*];done)), (by first | rfl | (simp;done) | (simp [*];done)), H', ⟨by have := HK1.out;have := HK2.out;omega⟩, ⟨Vst HO_0.out⟩, ⟨Nst HO_5.out⟩, ⟨bel HB.out⟩⟩
            ·rw [if_neg c10] at H
             exact absurd H (by simp)
           ·rw [if_neg c9] at H
            exact absurd H (by simp)
          ·rw [if_neg c8] at H
           exact absurd H (by simp)
         ·rw [if_neg c7] at H
          exact absurd H (by simp)
        ·rw [if_neg c6] at H
         exact absurd H (by simp)
       ·replace c5 := Bool.eq_false_iff.mpr c5
        subst c5
        have H1 : (galoisref23_Fixing.l1 k2 l0 l1 x5_1 x6_1 false (wrap64 (x8_2 + 1))) = some r := by rw [if_neg (show ¬ (false = true) by decide)] at H;exact H
        clear H
        have H := H1
        clear H1
        have H' := Aside0.mk H
        clear H
        go_wp2
        first | (with_reducible show Handed _ _ _ _) | (repeat (go_quiet (fail);try go_wp2))
        go_roundg k2
        case measure => have := HK1.out;have := HK2.out;omega
        case rel => exact ⟨(false), (wrap64 (x8_2 + 1)), (by first | rfl | (simp;done) | (simp [*];done)), (by first | rfl | (simp;done) | (simp [*];done)), H', ⟨by have := HK1.out;have := HK2.out;omega⟩, ⟨Vst HO_0.out⟩, ⟨Nst HO_5.out⟩, ⟨bel HB.out⟩⟩
      ·rw [if_neg c4] at H
       have c4b0 : decide (x8_2 < (l1.length : Int)) = false := decide_eq_false c4
       clear c4
       by_cases c11 : x7_2 = true
       ·subst c11
        have H1 : (if 0 ≤ x6_1 then (if x6_1 < (l0.length : Int) then (if x5_1.length < 5864062014805 then (galoisref23_Fixing.l0 k2 l0 l1 (x5_1 ++ [rd_L1 l0 x6_1]) (wrap64 (x6_1 + 1))) else (none)) else (none)) else (none)) = some r := by rw [if_pos rfl] at H;exact H
        clear H
        have H := H1
        clear H1
        by_cases c12 : 0 ≤ x6_1
        ·rw [if_pos c12] at H
         have c12b0 : decide (0 ≤ x6_1) = true := decide_eq_true c12
         clear c12
         by_cases c13 : x6_1 < (l0.length : Int)
         ·rw [if_pos c13] at H
          have c13b0 : decide (x6_1 < (l0.length : Int)) = true := decide_eq_true c13
          clear c13
          by_cases c14 : x5_1.length < 5864062014805
          ·rw [if_pos c14] at H
           have LMc14 := Aside0.mk c14
           clear c14
           obtain ⟨y165, hy165⟩ : ∃ y_ : List (List Int), y_ = (x5_1 ++ [rd_L1 l0 x6_1]) := ⟨_, rfl⟩
           replace H : (galoisref23_Fixing.l0 k2 l0 l1 y165 (wrap64 (x6_1 + 1))) = some r := by first | (rw [hy165];with_reducible exact H) | (have H2_ := (Option.bind_some _ _).symm.trans H;rw [hy165];with_reducible exact H2_) | (have H2_ := (Option.bind_some _ _).symm.trans H;with_reducible exact H2_) | with_reducible exact H | (rw [hy165];exact H) | exact H
           have Ny165 := Aside0.mk hy165
           clear hy165
           have H' := Aside0.mk H
           clear H
           have p164 : 0 ≤ (x6_1 : Int) := of_decide_eq_true (by assumption)
           have q164 : x6_1 < (l0.length : Int) := of_decide_eq_true (by assumption)
           obtain ⟨ad164, A164_0, c164_0, e164, hx164_0, hl164_0, hi164_0⟩ := at_L1 (Kd.V_reads' HO_0.out).2.2 x6_1 p164 q164
           cases e164
           obtain ⟨ce164, hce164, hMe164, hcc164⟩ := Kd.V_get HO_0.out [] x6_1 p164 (by first | exact q164 | exact of_decide_eq_true (by assumption) | (have e_ := (Kd.V_reads' HO_0.out).1;omega))
           obtain ⟨ua164_0, uc164_0, rfl, ul164_0, ge164_0⟩ := Kd.FK_slice_open hMe164
           have hv164_0 := hcc164 0 _ rfl
           rw [Nat.add_zero, show ((Kd.slice 3 (Kd.int .i64))).sz = 1 from rfl, Nat.mul_one] at hv164_0
           replace hv164_0 := Option.some.inj (hv164_0.symm.trans hx164_0)
           injection hv164_0 with hva_ hvn_ hvc_
           rw [hva_] at ge164_0
           rw [hvc_] at ul164_0
           have HL164_0 := Aside0.mk (show Kd.V (Kd.int .i64) 3 _ w.heap.size _ _ (rd_L1 l0 x6_1) from Kd.V_mk ul164_0 ge164_0)
           clear hva_ hvn_ hvc_ ge164_0 ul164_0
           clear hcc164 hce164
           have HR164_0 := Aside0.mk hi164_0
           have HC164_0 := Aside0.mk hl164_0
           clear hi164_0 hl164_0
           replace p164 := eq_true p164
           replace q164 := eq_true q164
           go_wp2_with (first|((with_reducible refine gate_builtin (b := .append) (xs := #[.tmp 40, .tmp 45]) rfl ?_);at_builtin;refine Kd.N_append (Kd.slice 3 (Kd.int .i64)) (w0 := w) w.heap.size rfl (.tmp 40) (.tmp 45) 35 49 (.slice none 0 0) 24 rfl Try.underlying35 info49 rfl (by decide) (by omega) u5 x5_1 (rd_L1 l0 x6_1) [.slice A164_0 (rd_L1 l0 x6_1).length c164_0] (fun k_ => (P0_ k_ ∨ w.heap.size ≤ k_)) (fun k_ => ((fun k_ => (P0_ k_ ∨ w.heap.size ≤ k_))) k_ ∧ some k_ ≠ (u5 : Value).ownBlock) rfl rfl ?aP (fun _ hk => hk) ?aF ?aO ?aB ?aS ?aL ?_;(case aP => first | exact (Kd.FK_slice_mk (Kd.V_reads' (Kd.V_mono (ok' := (fun k_ => ((fun k_ => (P0_ k_ ∨ w.heap.size ≤ k_))) k_ ∧ some k_ ≠ (u5 : Value).ownBlock)) (HL164_0.out) (fun k_ hk => ⟨hk.1, hk.2⟩))).2.1 (Kd.V_F (Kd.V_mono (ok' := (fun k_ => ((fun k_ => (P0_ k_ ∨ w.heap.size ≤ k_))) k_ ∧ some k_ ≠ (u5 : Value).ownBlock)) (HL164_0.out) (fun k_ hk => ⟨hk.1, hk.2⟩)))) | (refine Kd.FK_slice_mk (Kd.V_reads' HL164_0.out).2.1 ?_;(with_reducible repeat (first|apply Kd.F_alloc | apply Kd.F_drewN | apply Kd.F_drew));exact (Kd.V_F (Kd.V_mono (ok' := (fun k_ => ((fun k_ => (P0_ k_ ∨ w.heap.size ≤ k_))) k_ ∧ some k_ ≠ (u5 : Value).ownBlock)) (HL164_0.out) (fun k_ hk => ⟨hk.1, hk.2⟩)))));(case aB => exact (bel HB.out));(case aF => exact (fun k_ hk => (.inr (Nat.le_trans (below_size (bel HB.out)) hk))));(case aO => exact (Nst HO_5.out));(case aS => exact (below_size (bel HB.out)));(case aL => have := LMc14.out;omega);intro v166 w15 ho hb hg hat;rw [← Ny165.out] at ho;have n0_ := Aside0.mk (Kd.V_afterv (ok := (fun k_ => (P0_ k_ ∨ w.heap.size ≤ k_))) (Vst HO_0.out) hg hat);have n1_ := Aside0.mk (Kd.V_afterv (ok := (fun k_ => (P0_ k_ ∨ w.heap.size ≤ k_))) (Vst HL164_0.out) hg hat);have n2_ := Aside0.mk (hb);have n3_ := Aside0.mk (ho);clear HO_0;clear HL164_0;clear HB;clear HO_5;have HO_0 := n0_;have HL164_0 := n1_;have HB := n2_;have HO167 := n3_;clear n0_ n1_ n2_ n3_;clear ho hb hg hat))
           first | (with_reducible show Handed _ _ _ _) | (repeat (go_quiet (first|((with_reducible refine gate_builtin (b := .append) (xs := #[.tmp 40, .tmp 45]) rfl ?_);at_builtin;refine Kd.N_append (Kd.slice 3 (Kd.int .i64)) (w0 := w) w.heap.size rfl (.tmp 40) (.tmp 45) 35 49 (.slice none 0 0) 24 rfl Try.underlying35 info49 rfl (by decide) (by omega) u5 x5_1 (rd_L1 l0 x6_1) [.slice A164_0 (rd_L1 l0 x6_1).length c164_0] (fun k_ => (P0_ k_ ∨ w.heap.size ≤ k_)) (fun k_ => ((fun k_ => (P0_ k_ ∨ w.heap.size ≤ k_))) k_ ∧ some k_ ≠ (u5 : Value).ownBlock) rfl rfl ?aP (fun _ hk => hk) ?aF ?aO ?aB ?aS ?aL ?_;(case aP => first | exact (Kd.FK_slice_mk (Kd.V_reads' (Kd.V_mono (ok' := (fun k_ => ((fun k_ => (P0_ k_ ∨ w.heap.size ≤ k_))) k_ ∧ some k_ ≠ (u5 : Value).ownBlock)) (HL164_0.out) (fun k_ hk => ⟨hk.1, hk.2⟩))).2.1 (Kd.V_F (Kd.V_mono (ok' := (fun k_ => ((fun k_ => (P0_ k_ ∨ w.heap.size ≤ k_))) k_ ∧ some k_ ≠ (u5 : Value).ownBlock)) (HL164_0.out) (fun k_ hk => ⟨hk.1, hk.2⟩)))) | (refine Kd.FK_slice_mk (Kd.V_reads' HL164_0.out).2.1 ?_;(with_reducible repeat (first|apply Kd.F_alloc | apply Kd.F_drewN | apply Kd.F_drew));exact (Kd.V_F (Kd.V_mono (ok' := (fun k_ => ((fun k_ => (P0_ k_ ∨ w.heap.size ≤ k_))) k_ ∧ some k_ ≠ (u5 : Value).ownBlock)) (HL164_0.out) (fun k_ hk => ⟨hk.1, hk.2⟩)))));(case aB => exact (bel HB.out));(case aF => exact (fun k_ hk => (.inr (Nat.le_trans (below_size (bel HB.out)) hk))));(case aO => exact (Nst HO_5.out));(case aS => exact (below_size (bel HB.out)));(case aL => have := LMc14.out;omega);intro v166 w15 ho hb hg hat;rw [← Ny165.out] at ho;have n0_ := Aside0.mk (Kd.V_afterv (ok := (fun k_ => (P0_ k_ ∨ w.heap.size ≤ k_))) (Vst HO_0.out) hg hat);have n1_ := Aside0.mk (Kd.V_afterv (ok := (fun k_ => (P0_ k_ ∨ w.heap.size ≤ k_))) (Vst HL164_0.out) hg hat);have n2_ := Aside0.mk (hb);have n3_ := Aside0.mk (ho);clear HO_0;clear HL164_0;clear HB;clear HO_5;have HO_0 := n0_;have HL164_0 := n1_;have HB := n2_;have HO167 := n3_;clear n0_ n1_ n2_ n3_;clear ho hb hg hat));try go_wp2_with (first|((with_reducible refine gate_builtin (b := .append) (xs := #[.tmp 40, .tmp 45]) rfl ?_);at_builtin;refine Kd.N_append (Kd.slice 3 (Kd.int .i64)) (w0 := w) w.heap.size rfl (.tmp 40) (.tmp 45) 35 49 (.slice none 0 0) 24 rfl Try.underlying35 info49 rfl (by decide) (by omega) u5 x5_1 (rd_L1 l0 x6_1) [.slice A164_0 (rd_L1 l0 x6_1).length c164_0] (fun k_ => (P0_ k_ ∨ w.heap.size ≤ k_)) (fun k_ => ((fun k_ => (P0_ k_ ∨ w.heap.size ≤ k_))) k_ ∧ some k_ ≠ (u5 : Value).ownBlock) rfl rfl ?aP (fun _ hk => hk) ?aF ?aO ?aB ?aS ?aL ?_;(case aP => first | exact (Kd.FK_slice_mk (Kd.V_reads' (Kd.V_mono (ok' := (fun k_ => ((fun k_ => (P0_ k_ ∨ w.heap.size ≤ k_))) k_ ∧ some k_ ≠ (u5 : Value).ownBlock)) (HL164_0.out) (fun k_ hk => ⟨hk.1, hk.2⟩))).2.1 (Kd.V_F (Kd.V_mono (ok' := (fun k_ => ((fun k_ => (P0_ k_ ∨ w.heap.size ≤ k_))) k_ ∧ some k_ ≠ (u5 : Value).ownBlock)) (HL164_0.out) (fun k_ hk => ⟨hk.1, hk.2⟩)))) | (refine Kd.FK_slice_mk (Kd.V_reads' HL164_0.out).2.1 ?_;(with_reducible repeat (first|apply Kd.F_alloc | apply Kd.F_drewN | apply Kd.F_drew));exact (Kd.V_F (Kd.V_mono (ok' := (fun k_ => ((fun k_ => (P0_ k_ ∨ w.heap.size ≤ k_))) k_ ∧ some k_ ≠ (u5 : Value).ownBlock)) (HL164_0.out) (fun k_ hk => ⟨hk.1, hk.2⟩)))));(case aB => exact (bel HB.out));(case aF => exact (fun k_ hk => (.inr (Nat.le_trans (below_size (bel HB.out)) hk))));(case aO => exact (Nst HO_5.out));(case aS => exact (below_size (bel HB.out)));(case aL => have := LMc14.out;omega);intro v166 w15 ho hb hg hat;rw [← Ny165.out] at ho;have n0_ := Aside0.mk (Kd.V_afterv (ok := (fun k_ => (P0_ k_ ∨ w.heap.size ≤ k_))) (Vst HO_0.out) hg hat);have n1_ := Aside0.mk (Kd.V_afterv (ok := (fun k_ => (P0_ k_ ∨ w.heap.size ≤ k_))) (Vst HL164_0.out) hg hat);have n2_ := Aside0.mk (hb);have n3_ := Aside0.mk (ho);clear HO_0;clear HL164_0;clear HB;clear HO_5;have HO_0 := n0_;have HL164_0 := n1_;have HB := n2_;have HO167 := n3_;clear n0_ n1_ n2_ n3_;clear ho hb hg hat))))
           go_roundg k2
           case measure => have := HK1.out;have := HK2.out;omega
           case rel => exact ⟨(y165), (wrap64 (x6_1 + 1)), (by first | rfl | (simp;done) | (simp [*];done)), H', ⟨by have := HK1.out;have := HK2.out;omega⟩, ⟨Vst HO_0.out⟩, ⟨Nst HO167.out⟩, ⟨bel HB.out⟩⟩
          ·rw [if_neg c14] at H
           exact absurd H (by simp)
         ·rw [if_neg c13] at H
          exact absurd H (by simp)
        ·rw [if_neg c12] at H
         exact absurd H (by simp)
       ·replace c11 := Bool.eq_false_iff.mpr c11
        subst c11
        have H1 : (galoisref23_Fixing.l0 k2 l0 l1 x5_1 (wrap64 (x6_1 + 1))) = some r := by rw [if_neg (show ¬ (false = true) by decide)] at H;exact H
        clear H
        have H := H1
        clear H1
        have H' := Aside0.mk H
        clear H
        go_wp2
        first | (with_reducible show Handed _ _ _ _) | (repeat (go_quiet (fail);try go_wp2))
        go_roundg k2
        case measure => have := HK1.out;have := HK2.out;omega
        case rel => exact ⟨(x5_1), (wrap64 (x6_1 + 1)), (by first | rfl | (simp;done) | (simp [*];done)), H', ⟨by have := HK1.out;have := HK2.out;omega⟩, ⟨Vst HO_0.out⟩, ⟨Nst HO_5.out⟩, ⟨bel HB.out⟩⟩
   ·rw [if_neg c3] at H
    have c3b0 : decide (x6_1 < (l0.length : Int)) = false := decide_eq_false c3
    clear c3
    obtain rfl := Option.some.inj H
    go_wp2
    repeat (go_quiet (fail);try go_wp2)
    go_ret
    exact ⟨_, by first | rfl | (simp [errW_none, errW_some] <;> rfl) | (simp [*, errW_none, errW_some] <;> rfl), Nst HO_5.out, bel HB.out⟩
end Go.Proofs.Ytmbldnoepjmhhaa.PRf
