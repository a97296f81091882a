-- Printed by wip/tools/mk.py of this repo (the kit's print with turns made in memory).
import Derived.Test.YtaaaljifclecnaaZCosetChecksPCkx0
import Derived.Test.YtaaaljifclecnaaZCosetChecksPCkx3
import Derived.Test.YtaaaljifclecnaaZCosetChecksPCkx4
namespace Go.Proofs.Ytaaaljifclecnaa.PCk
open Go.RowKit Go.Proofs.YtaaaljifclecnaaW.PrintWords Go.Proofs.YtaaaljifclecnaaW.PrintLast Go.Proofs.YtaaaljifclecnaaW.PrintMore
attribute [local go_sem] max2_int min2_int max_two min_two max_three min_three max_four min_four   -- for this text's walks alone
set_option linter.unusedVariables false
set_option linter.unusedSimpArgs false
mutual
def galoisref27_CheckTable.l0 : Nat → List (List Int) → Int → Int → Option (Int)
  | 0, _, _, _ => none
  | k + 1, x0, x3, x4 => if x4 < x3 then (if 0 ≤ x4 then (if x4 < (x0.length : Int) then (if ((rd_L1 x0 x4).length : Int) = x3 then (galoisref27_CheckTable.l0 k x0 x3 (wrap64 (x4 + 1))) else (some 2)) else (none)) else (none)) else (galoisref27_CheckTable.l1 k x0 x3 0)
def galoisref27_CheckTable.l1 : Nat → List (List Int) → Int → Int → Option (Int)
  | 0, _, _, _ => none
  | k + 1, x0, x3, x5 => if x5 < x3 then (galoisref27_CheckTable.l2 k x0 x3 x5 0) else (galoisref27_CheckTable.l3 k x0 x3 0)
def galoisref27_CheckTable.l2 : Nat → List (List Int) → Int → Int → Int → Option (Int)
  | 0, _, _, _, _ => none
  | k + 1, x0, x3, x5, x6 => if x6 < x3 then (if 0 ≤ x5 then (if x5 < (x0.length : Int) then (if 0 ≤ x6 then (if x6 < ((rd_L1 x0 x5).length : Int) then (if (rd (rd_L1 x0 x5) x6) < 0 then (some 3) else (if (rd (rd_L1 x0 x5) x6) ≥ x3 then (some 3) else (galoisref27_CheckTable.l2 k x0 x3 x5 (wrap64 (x6 + 1))))) else (none)) else (none)) else (none)) else (none)) else (galoisref27_CheckTable.l1 k x0 x3 (wrap64 (x5 + 1)))
def galoisref27_CheckTable.l3 : Nat → List (List Int) → Int → Int → Option (Int)
  | 0, _, _, _ => none
  | k + 1, x0, x3, x7 => if x7 < x3 then (if 0 < (x0.length : Int) then (if 0 ≤ x7 then (if x7 < ((rd_L1 x0 0).length : Int) then (if (rd (rd_L1 x0 0) x7) = x7 then (if x7 < (x0.length : Int) then (if 0 < ((rd_L1 x0 x7).length : Int) then (if (rd (rd_L1 x0 x7) 0) = x7 then (galoisref27_CheckTable.l3 k x0 x3 (wrap64 (x7 + 1))) else (some 15)) else (none)) else (none)) else (some 15)) else (none)) else (none)) else (none)) else ((galoisref27_rows.f k x0).bind fun t217 => (if t217 = true then ((galoisref27_associative.f k x0).bind fun t218 => (if t218 = true then (some 0) else (some 15))) else (some 15)))
end
def galoisref27_CheckTable.f (k : Nat) (l0 : List (List Int)) : Option (Int) := if (l0.length : Int) = 0 then (some 2) else (if (l0.length : Int) > 120 then (some 5) else (galoisref27_CheckTable.l0 k l0 (l0.length : Int) 0))
theorem galoisref27_CheckTable.mono_l : ∀ k, (∀ y0 y1 y2, LeO (galoisref27_CheckTable.l0 k y0 y1 y2) (galoisref27_CheckTable.l0 (k + 1) y0 y1 y2)) ∧ (∀ y0 y1 y2, LeO (galoisref27_CheckTable.l1 k y0 y1 y2) (galoisref27_CheckTable.l1 (k + 1) y0 y1 y2)) ∧ (∀ y0 y1 y2 y3, LeO (galoisref27_CheckTable.l2 k y0 y1 y2 y3) (galoisref27_CheckTable.l2 (k + 1) y0 y1 y2 y3)) ∧ (∀ y0 y1 y2, LeO (galoisref27_CheckTable.l3 k y0 y1 y2) (galoisref27_CheckTable.l3 (k + 1) y0 y1 y2))
  | 0 => ⟨fun _ _ _ r h => by simp [galoisref27_CheckTable.l0] at h, fun _ _ _ r h => by simp [galoisref27_CheckTable.l1] at h, fun _ _ _ _ r h => by simp [galoisref27_CheckTable.l2] at h, fun _ _ _ r h => by simp [galoisref27_CheckTable.l3] at h⟩
  | k + 1 => by
    obtain ⟨ih0, ih1, ih2, ih3⟩ := galoisref27_CheckTable.mono_l k
    refine ⟨?_, ?_, ?_, ?_⟩
    · intro y0 y1 y2
      unfold galoisref27_CheckTable.l0
      repeat' first
      | (with_reducible exact ih0 _ _ _)
      | (with_reducible exact ih1 _ _ _)
      | (with_reducible exact ih2 _ _ _ _)
      | (with_reducible exact ih3 _ _ _)
      | (with_reducible exact galoisref27_associative.mono _ _)
      | (with_reducible exact galoisref27_rows.mono _ _)
      | (with_reducible exact LeO.refl _)
      | (with_reducible exact LeO.none _)
      | (with_reducible refine LeO.ite ?_ ?_)
      | (with_reducible refine LeO.bind ?_ (fun _ => ?_))
      | exact ih0 _ _ _
      | exact ih1 _ _ _
      | exact ih2 _ _ _ _
      | exact ih3 _ _ _
      | exact galoisref27_associative.mono _ _
      | exact galoisref27_rows.mono _ _
      | exact LeO.none _
      | refine LeO.ite ?_ ?_
      | refine LeO.bind ?_ (fun _ => ?_)
    · intro y0 y1 y2
      unfold galoisref27_CheckTable.l1
      repeat' first
      | (with_reducible exact ih0 _ _ _)
      | (with_reducible exact ih1 _ _ _)
      | (with_reducible exact ih2 _ _ _ _)
      | (with_reducible exact ih3 _ _ _)
      | (with_reducible exact galoisref27_associative.mono _ _)
      | (with_reducible exact galoisref27_rows.mono _ _)
      | (with_reducible exact LeO.refl _)
      | (with_reducible exact LeO.none _)
      | (with_reducible refine LeO.ite ?_ ?_)
      | (with_reducible refine LeO.bind ?_ (fun _ => ?_))
      | exact ih0 _ _ _
      | exact ih1 _ _ _
      | exact ih2 _ _ _ _
      | exact ih3 _ _ _
      | exact galoisref27_associative.mono _ _
      | exact galoisref27_rows.mono _ _
      | exact LeO.none _
      | refine LeO.ite ?_ ?_
      | refine LeO.bind ?_ (fun _ => ?_)
    · intro y0 y1 y2 y3
      unfold galoisref27_CheckTable.l2
      repeat' first
      | (with_reducible exact ih0 _ _ _)
      | (with_reducible exact ih1 _ _ _)
      | (with_reducible exact ih2 _ _ _ _)
      | (with_reducible exact ih3 _ _ _)
      | (with_reducible exact galoisref27_associative.mono _ _)
      | (with_reducible exact galoisref27_rows.mono _ _)
      | (with_reducible exact LeO.refl _)
      | (with_reducible exact LeO.none _)
      | (with_reducible refine LeO.ite ?_ ?_)
      | (with_reducible refine LeO.bind ?_ (fun _ => ?_))
      | exact ih0 _ _ _
      | exact ih1 _ _ _
      | exact ih2 _ _ _ _
      | exact ih3 _ _ _
      | exact galoisref27_associative.mono _ _
      | exact galoisref27_rows.mono _ _
      | exact LeO.none _
      | refine LeO.ite ?_ ?_
      | refine LeO.bind ?_ (fun _ => ?_)
    · intro y0 y1 y2
      unfold galoisref27_CheckTable.l3
      repeat' first
      | (with_reducible exact ih0 _ _ _)
      | (with_reducible exact ih1 _ _ _)
      | (with_reducible exact ih2 _ _ _ _)
      | (with_reducible exact ih3 _ _ _)
      | (with_reducible exact galoisref27_associative.mono _ _)
      | (with_reducible exact galoisref27_rows.mono _ _)
      | (with_reducible exact LeO.refl _)
      | (with_reducible exact LeO.none _)
      | (with_reducible refine LeO.ite ?_ ?_)
      | (with_reducible refine LeO.bind ?_ (fun _ => ?_))
      | exact ih0 _ _ _
      | exact ih1 _ _ _
      | exact ih2 _ _ _ _
      | exact ih3 _ _ _
      | exact galoisref27_associative.mono _ _
      | exact galoisref27_rows.mono _ _
      | exact LeO.none _
      | refine LeO.ite ?_ ?_
      | refine LeO.bind ?_ (fun _ => ?_)
theorem galoisref27_CheckTable.mono : ∀ a0 k, LeO (galoisref27_CheckTable.f k a0) (galoisref27_CheckTable.f (k + 1) a0) := by
  intro a0 k
  obtain ⟨ih0, ih1, ih2, ih3⟩ := galoisref27_CheckTable.mono_l k
  unfold galoisref27_CheckTable.f
  repeat' first
      | (with_reducible exact ih0 _ _ _)
      | (with_reducible exact ih1 _ _ _)
      | (with_reducible exact ih2 _ _ _ _)
      | (with_reducible exact ih3 _ _ _)
      | (with_reducible exact galoisref27_associative.mono _ _)
      | (with_reducible exact galoisref27_rows.mono _ _)
      | (with_reducible exact LeO.refl _)
      | (with_reducible exact LeO.none _)
      | (with_reducible refine LeO.ite ?_ ?_)
      | (with_reducible refine LeO.bind ?_ (fun _ => ?_))
      | exact ih0 _ _ _
      | exact ih1 _ _ _
      | exact ih2 _ _ _ _
      | exact ih3 _ _ _
      | exact galoisref27_associative.mono _ _
      | exact galoisref27_rows.mono _ _
      | exact LeO.none _
      | refine LeO.ite ?_ ?_
      | refine LeO.bind ?_ (fun _ => ?_)
set_option maxHeartbeats 8000000 in
set_option maxRecDepth 100000 in
theorem galoisref27_CheckTable.calls (k : Nat) (A0 : Option Addr) (c0 : Nat) (l0 : List (List Int)) (r : Int) (w : World) (hr0 : Kd.C (Kd.slice 3 (Kd.int .i64)) w A0 l0.length l0) (hc0 : l0.length ≤ c0) (h : galoisref27_CheckTable.f k l0 = some r) :
    Calls Try.prog 37 #[.slice A0 l0.length c0] w fun e w' => e = .returned (.int .i64 r) ∧ Drawn0 w w' := by
  have HR0 := Aside0.mk hr0
  have HC0 := Aside0.mk hc0
  clear hr0 hc0
  have H : (if (l0.length : Int) = 0 then (some 2) else (if (l0.length : Int) > 120 then (some 5) else (galoisref27_CheckTable.l0 k l0 (l0.length : Int) 0))) = some r := h
  clear h
  by_cases c2 : (l0.length : Int) = 0
  · rw [if_pos c2] at H
    have c2b0 : ((l0.length : Int) == 0) = true := beq_iff_eq.mpr c2
    have c2b1 : ((l0.length : Int) != 0) = false := bne_eq_false_iff_eq.mpr c2
    clear c2
    obtain rfl := Option.some.inj H
    go_enter Try.func37, Try.ntmps37
    go_wp2
    go_ret
    exact ⟨by first | rfl | (simp; done) | (simp [*]; done), by repeat (first | exact Drawn0.refl _ | apply Drawn0.step)⟩
  · rw [if_neg c2] at H
    have c2b0 : ((l0.length : Int) == 0) = false := beq_eq_false_iff_ne.mpr c2
    have c2b1 : ((l0.length : Int) != 0) = true := bne_iff_ne.mpr c2
    have c2b2 : ¬ (l0 = []) := fun h_ => c2 (by rw [h_]; rfl)
    by_cases c3 : (l0.length : Int) > 120
    · rw [if_pos c3] at H
      have c3b0 : decide (120 < (l0.length : Int)) = true := decide_eq_true c3
      have c3b1 : decide (120 < l0.length) = true := decide_eq_true (by omega)
      clear c3
      obtain rfl := Option.some.inj H
      go_enter Try.func37, Try.ntmps37
      go_wp2
      go_ret
      exact ⟨by first | rfl | (simp; done) | (simp [*]; done), by repeat (first | exact Drawn0.refl _ | apply Drawn0.step)⟩
    · rw [if_neg c3] at H
      have c3b0 : decide (120 < (l0.length : Int)) = false := decide_eq_false c3
      have c3b1 : decide (120 < l0.length) = false := decide_eq_false (by omega)
      clear c3
      have H' := Aside0.mk H
      clear H
      go_enter Try.func37, Try.ntmps37
      go_wp2
      go_loopg [4] k (fun kq v4 w' => ∃ (x4_1 : Int), v4 = .int .i64 x4_1 ∧ Aside0 (galoisref27_CheckTable.l0 kq l0 (l0.length : Int) x4_1 = some r) ∧ Aside0 (kq ≤ k) ∧ Drawn0 w w')
      case atStart => exact ⟨(0), (by first | rfl | (simp; done) | (simp [*]; done)), H', ⟨Nat.le_refl _⟩, by repeat (first | exact Drawn0.refl _ | apply Drawn0.step)⟩
      case round =>
        clear H'
        try clear c2
        try clear c2b0
        try clear c2b1
        try clear c2b2
        try clear p2
        try clear c3
        try clear c3b0
        try clear c3b1
        obtain ⟨x4_1, rfl, HA, HK1, ⟨m1, rfl⟩⟩ := hrel
        cases gk with
        | zero => exact absurd HA.out (by simp [galoisref27_CheckTable.l0])
        | succ k1 =>
          have H := HA.out
          clear HA
          simp only [galoisref27_CheckTable.l0] at H
          by_cases c4 : x4_1 < (l0.length : Int)
          · rw [if_pos c4] at H
            have c4b0 : decide (x4_1 < (l0.length : Int)) = true := decide_eq_true c4
            clear c4
            by_cases c5 : 0 ≤ x4_1
            · rw [if_pos c5] at H
              have c5b0 : decide (0 ≤ x4_1) = true := decide_eq_true c5
              clear c5
              by_cases c6 : x4_1 < (l0.length : Int)
              · rw [if_pos c6] at H
                have c6b0 : decide (x4_1 < (l0.length : Int)) = true := decide_eq_true c6
                clear c6
                by_cases c7 : ((rd_L1 l0 x4_1).length : Int) = (l0.length : Int)
                · rw [if_pos c7] at H
                  have c7b0 : (((rd_L1 l0 x4_1).length : Int) == (l0.length : Int)) = true := beq_iff_eq.mpr c7
                  have c7b1 : (((rd_L1 l0 x4_1).length : Int) != (l0.length : Int)) = false := bne_eq_false_iff_eq.mpr c7
                  have c7b2 : ((rd_L1 l0 x4_1).length == l0.length) = true := by first | simpa using c7 | (simp at c7 ⊢; omega)
                  clear c7
                  have H' := Aside0.mk H
                  clear H
                  have p208 : 0 ≤ (x4_1 : Int) := of_decide_eq_true (by first | (with_reducible assumption) | assumption)
                  have q208 : x4_1 < (l0.length : Int) := of_decide_eq_true (by first | (with_reducible assumption) | assumption)
                  obtain ⟨ad208, A208_0, c208_0, e208, hx208_0, hl208_0, hi208_0⟩ := at_L1 HR0.out x4_1 p208 q208
                  cases e208
                  have HR208_0 := Aside0.mk hi208_0
                  have HC208_0 := Aside0.mk hl208_0
                  clear hi208_0 hl208_0
                  replace p208 := eq_true p208
                  replace q208 := eq_true q208
                  go_wp2
                  go_roundg k1
                  case measure => have := HK1.out; omega
                  case rel => exact ⟨(wrap64 (x4_1 + 1)), (by first | rfl | (simp; done) | (simp [*]; done)), H', ⟨by have := HK1.out; omega⟩, by repeat (first | exact Drawn0.refl _ | apply Drawn0.step)⟩
                · rw [if_neg c7] at H
                  have c7b0 : (((rd_L1 l0 x4_1).length : Int) == (l0.length : Int)) = false := beq_eq_false_iff_ne.mpr c7
                  have c7b1 : (((rd_L1 l0 x4_1).length : Int) != (l0.length : Int)) = true := bne_iff_ne.mpr c7
                  have c7b2 : ((rd_L1 l0 x4_1).length == l0.length) = false := by first | simpa using c7 | (simp at c7 ⊢; omega)
                  obtain rfl := Option.some.inj H
                  have p208 : 0 ≤ (x4_1 : Int) := of_decide_eq_true (by first | (with_reducible assumption) | assumption)
                  have q208 : x4_1 < (l0.length : Int) := of_decide_eq_true (by first | (with_reducible assumption) | assumption)
                  obtain ⟨ad208, A208_0, c208_0, e208, hx208_0, hl208_0, hi208_0⟩ := at_L1 HR0.out x4_1 p208 q208
                  cases e208
                  have HR208_0 := Aside0.mk hi208_0
                  have HC208_0 := Aside0.mk hl208_0
                  clear hi208_0 hl208_0
                  replace p208 := eq_true p208
                  replace q208 := eq_true q208
                  go_wp2
                  go_ret
                  exact ⟨by first | rfl | (simp; done) | (simp [*]; done), by repeat (first | exact Drawn0.refl _ | apply Drawn0.step)⟩
              · rw [if_neg c6] at H
                exact absurd H (by simp)
            · rw [if_neg c5] at H
              exact absurd H (by simp)
          · rw [if_neg c4] at H
            have c4b0 : decide (x4_1 < (l0.length : Int)) = false := decide_eq_false c4
            clear c4
            have H' := Aside0.mk H
            clear H
            go_wp2
            go_loopg [5] k1 (fun kq v5 w' => ∃ (x5_2 : Int), v5 = .int .i64 x5_2 ∧ Aside0 (galoisref27_CheckTable.l1 kq l0 (l0.length : Int) x5_2 = some r) ∧ Aside0 (kq ≤ k1) ∧ Drawn0 w w')
            case atStart => exact ⟨(0), (by first | rfl | (simp; done) | (simp [*]; done)), H', ⟨Nat.le_refl _⟩, by repeat (first | exact Drawn0.refl _ | apply Drawn0.step)⟩
            case round =>
              clear H'
              try clear c2
              try clear c2b0
              try clear c2b1
              try clear c2b2
              try clear p2
              try clear q2
              try clear hx2
              try clear c3
              try clear c3b0
              try clear c3b1
              try clear c4
              try clear c4b0
              try clear c5
              try clear c5b0
              try clear c6
              try clear c6b0
              try clear p6
              try clear c7
              try clear c7b0
              try clear c7b1
              try clear c7b2
              try clear hx208_0
              try clear p2
              try clear p208
              try clear q208
              obtain ⟨x5_2, rfl, HA, HK2, ⟨m2, rfl⟩⟩ := hrel
              cases gk with
              | zero => exact absurd HA.out (by simp [galoisref27_CheckTable.l1])
              | succ k2 =>
                have H := HA.out
                clear HA
                simp only [galoisref27_CheckTable.l1] at H
                by_cases c8 : x5_2 < (l0.length : Int)
                · rw [if_pos c8] at H
                  have c8b0 : decide (x5_2 < (l0.length : Int)) = true := decide_eq_true c8
                  clear c8
                  have H' := Aside0.mk H
                  clear H
                  go_wp2
                  go_loopg [6] k2 (fun kq v6 w' => ∃ (x6_3 : Int), v6 = .int .i64 x6_3 ∧ Aside0 (galoisref27_CheckTable.l2 kq l0 (l0.length : Int) x5_2 x6_3 = some r) ∧ Aside0 (kq ≤ k2) ∧ Drawn0 w w')
                  case atStart => exact ⟨(0), (by first | rfl | (simp; done) | (simp [*]; done)), H', ⟨Nat.le_refl _⟩, by repeat (first | exact Drawn0.refl _ | apply Drawn0.step)⟩
                  case round =>
                    clear H'
                    try clear c2
                    try clear c2b0
                    try clear c2b1
                    try clear c2b2
                    try clear p2
                    try clear q2
                    try clear hx2
                    try clear c3
                    try clear c3b0
                    try clear c3b1
                    try clear c4
                    try clear c4b0
                    try clear c5
                    try clear c5b0
                    try clear c6
                    try clear c6b0
                    try clear p6
                    try clear c7
                    try clear c7b0
                    try clear c7b1
                    try clear c7b2
                    try clear c8
                    try clear c8b0
                    try clear hx208_0
                    try clear p2
                    try clear p208
                    try clear p6
                    try clear q2
                    try clear q208
                    obtain ⟨x6_3, rfl, HA, HK3, ⟨m3, rfl⟩⟩ := hrel
                    cases gk with
                    | zero => exact absurd HA.out (by simp [galoisref27_CheckTable.l2])
                    | succ k3 =>
                      have H := HA.out
                      clear HA
                      simp only [galoisref27_CheckTable.l2] at H
                      by_cases c9 : x6_3 < (l0.length : Int)
                      · rw [if_pos c9] at H
                        have c9b0 : decide (x6_3 < (l0.length : Int)) = true := decide_eq_true c9
                        clear c9
                        by_cases c10 : 0 ≤ x5_2
                        · rw [if_pos c10] at H
                          have c10b0 : decide (0 ≤ x5_2) = true := decide_eq_true c10
                          clear c10
                          by_cases c11 : x5_2 < (l0.length : Int)
                          · rw [if_pos c11] at H
                            have c11b0 : decide (x5_2 < (l0.length : Int)) = true := decide_eq_true c11
                            clear c11
                            by_cases c12 : 0 ≤ x6_3
                            · rw [if_pos c12] at H
                              have c12b0 : decide (0 ≤ x6_3) = true := decide_eq_true c12
                              clear c12
                              by_cases c13 : x6_3 < ((rd_L1 l0 x5_2).length : Int)
                              · rw [if_pos c13] at H
                                have c13b0 : decide (x6_3 < ((rd_L1 l0 x5_2).length : Int)) = true := decide_eq_true c13
                                clear c13
                                by_cases c14 : (rd (rd_L1 l0 x5_2) x6_3) < 0
                                · rw [if_pos c14] at H
                                  have c14b0 : decide ((rd (rd_L1 l0 x5_2) x6_3) < 0) = true := decide_eq_true c14
                                  clear c14
                                  obtain rfl := Option.some.inj H
                                  have p209 : 0 ≤ (x5_2 : Int) := of_decide_eq_true (by first | (with_reducible assumption) | assumption)
                                  have q209 : x5_2 < (l0.length : Int) := of_decide_eq_true (by first | (with_reducible assumption) | assumption)
                                  obtain ⟨ad209, A209_0, c209_0, e209, hx209_0, hl209_0, hi209_0⟩ := at_L1 HR0.out x5_2 p209 q209
                                  cases e209
                                  have HR209_0 := Aside0.mk hi209_0
                                  have HC209_0 := Aside0.mk hl209_0
                                  clear hi209_0 hl209_0
                                  replace p209 := eq_true p209
                                  replace q209 := eq_true q209
                                  have p210 : 0 ≤ (x6_3 : Int) := of_decide_eq_true (by first | (with_reducible assumption) | assumption)
                                  have q210 : x6_3 < ((rd_L1 l0 x5_2).length : Int) := of_decide_eq_true (by first | (with_reducible assumption) | assumption)
                                  obtain ⟨ad210, e210, hx210_0⟩ := Kd.at_int HR209_0.out x6_3 p210 q210
                                  cases e210
                                  replace p210 := eq_true p210
                                  replace q210 := eq_true q210
                                  go_wp2
                                  go_ret
                                  exact ⟨by first | rfl | (simp; done) | (simp [*]; done), by repeat (first | exact Drawn0.refl _ | apply Drawn0.step)⟩
                                · rw [if_neg c14] at H
                                  have c14b0 : decide ((rd (rd_L1 l0 x5_2) x6_3) < 0) = false := decide_eq_false c14
                                  clear c14
                                  by_cases c15 : (rd (rd_L1 l0 x5_2) x6_3) ≥ (l0.length : Int)
                                  · rw [if_pos c15] at H
                                    have c15b0 : decide ((l0.length : Int) ≤ (rd (rd_L1 l0 x5_2) x6_3)) = true := decide_eq_true c15
                                    clear c15
                                    obtain rfl := Option.some.inj H
                                    have p209 : 0 ≤ (x5_2 : Int) := of_decide_eq_true (by first | (with_reducible assumption) | assumption)
                                    have q209 : x5_2 < (l0.length : Int) := of_decide_eq_true (by first | (with_reducible assumption) | assumption)
                                    obtain ⟨ad209, A209_0, c209_0, e209, hx209_0, hl209_0, hi209_0⟩ := at_L1 HR0.out x5_2 p209 q209
                                    cases e209
                                    have HR209_0 := Aside0.mk hi209_0
                                    have HC209_0 := Aside0.mk hl209_0
                                    clear hi209_0 hl209_0
                                    replace p209 := eq_true p209
                                    replace q209 := eq_true q209
                                    have p210 : 0 ≤ (x6_3 : Int) := of_decide_eq_true (by first | (with_reducible assumption) | assumption)
                                    have q210 : x6_3 < ((rd_L1 l0 x5_2).length : Int) := of_decide_eq_true (by first | (with_reducible assumption) | assumption)
                                    obtain ⟨ad210, e210, hx210_0⟩ := Kd.at_int HR209_0.out x6_3 p210 q210
                                    cases e210
                                    replace p210 := eq_true p210
                                    replace q210 := eq_true q210
                                    have p211 : 0 ≤ (x5_2 : Int) := of_decide_eq_true (by first | (with_reducible assumption) | assumption)
                                    have q211 : x5_2 < (l0.length : Int) := of_decide_eq_true (by first | (with_reducible assumption) | assumption)
                                    obtain ⟨ad211, A211_0, c211_0, e211, hx211_0, hl211_0, hi211_0⟩ := at_L1 HR0.out x5_2 p211 q211
                                    obtain rfl : ad209 = ad211 := (by injection e211)
                                    have HR211_0 := Aside0.mk hi211_0
                                    have HC211_0 := Aside0.mk hl211_0
                                    clear hi211_0 hl211_0
                                    replace p211 := eq_true p211
                                    replace q211 := eq_true q211
                                    have ea_ := Option.some.inj (hx209_0.symm.trans hx211_0)
                                    injection ea_ with ea_ en_ ec_
                                    subst ea_
                                    subst ec_
                                    clear en_
                                    have p212 : 0 ≤ (x6_3 : Int) := of_decide_eq_true (by first | (with_reducible assumption) | assumption)
                                    have q212 : x6_3 < ((rd_L1 l0 x5_2).length : Int) := of_decide_eq_true (by first | (with_reducible assumption) | assumption)
                                    obtain ⟨ad212, e212, hx212_0⟩ := Kd.at_int HR211_0.out x6_3 p212 q212
                                    cases e212
                                    replace p212 := eq_true p212
                                    replace q212 := eq_true q212
                                    go_wp2
                                    go_ret
                                    exact ⟨by first | rfl | (simp; done) | (simp [*]; done), by repeat (first | exact Drawn0.refl _ | apply Drawn0.step)⟩
                                  · rw [if_neg c15] at H
                                    have c15b0 : decide ((l0.length : Int) ≤ (rd (rd_L1 l0 x5_2) x6_3)) = false := decide_eq_false c15
                                    clear c15
                                    have H' := Aside0.mk H
                                    clear H
                                    have p209 : 0 ≤ (x5_2 : Int) := of_decide_eq_true (by first | (with_reducible assumption) | assumption)
                                    have q209 : x5_2 < (l0.length : Int) := of_decide_eq_true (by first | (with_reducible assumption) | assumption)
                                    obtain ⟨ad209, A209_0, c209_0, e209, hx209_0, hl209_0, hi209_0⟩ := at_L1 HR0.out x5_2 p209 q209
                                    cases e209
                                    have HR209_0 := Aside0.mk hi209_0
                                    have HC209_0 := Aside0.mk hl209_0
                                    clear hi209_0 hl209_0
                                    replace p209 := eq_true p209
                                    replace q209 := eq_true q209
                                    have p210 : 0 ≤ (x6_3 : Int) := of_decide_eq_true (by first | (with_reducible assumption) | assumption)
                                    have q210 : x6_3 < ((rd_L1 l0 x5_2).length : Int) := of_decide_eq_true (by first | (with_reducible assumption) | assumption)
                                    obtain ⟨ad210, e210, hx210_0⟩ := Kd.at_int HR209_0.out x6_3 p210 q210
                                    cases e210
                                    replace p210 := eq_true p210
                                    replace q210 := eq_true q210
                                    have p211 : 0 ≤ (x5_2 : Int) := of_decide_eq_true (by first | (with_reducible assumption) | assumption)
                                    have q211 : x5_2 < (l0.length : Int) := of_decide_eq_true (by first | (with_reducible assumption) | assumption)
                                    obtain ⟨ad211, A211_0, c211_0, e211, hx211_0, hl211_0, hi211_0⟩ := at_L1 HR0.out x5_2 p211 q211
                                    obtain rfl : ad209 = ad211 := (by injection e211)
                                    have HR211_0 := Aside0.mk hi211_0
                                    have HC211_0 := Aside0.mk hl211_0
                                    clear hi211_0 hl211_0
                                    replace p211 := eq_true p211
                                    replace q211 := eq_true q211
                                    have ea_ := Option.some.inj (hx209_0.symm.trans hx211_0)
                                    injection ea_ with ea_ en_ ec_
                                    subst ea_
                                    subst ec_
                                    clear en_
                                    have p212 : 0 ≤ (x6_3 : Int) := of_decide_eq_true (by first | (with_reducible assumption) | assumption)
                                    have q212 : x6_3 < ((rd_L1 l0 x5_2).length : Int) := of_decide_eq_true (by first | (with_reducible assumption) | assumption)
                                    obtain ⟨ad212, e212, hx212_0⟩ := Kd.at_int HR211_0.out x6_3 p212 q212
                                    cases e212
                                    replace p212 := eq_true p212
                                    replace q212 := eq_true q212
                                    go_wp2
                                    go_roundg k3
                                    case measure => have := HK1.out; have := HK2.out; have := HK3.out; omega
                                    case rel => exact ⟨(wrap64 (x6_3 + 1)), (by first | rfl | (simp; done) | (simp [*]; done)), H', ⟨by have := HK1.out; have := HK2.out; have := HK3.out; omega⟩, by repeat (first | exact Drawn0.refl _ | apply Drawn0.step)⟩
                              · rw [if_neg c13] at H
                                exact absurd H (by simp)
                            · rw [if_neg c12] at H
                              exact absurd H (by simp)
                          · rw [if_neg c11] at H
                            exact absurd H (by simp)
                        · rw [if_neg c10] at H
                          exact absurd H (by simp)
                      · rw [if_neg c9] at H
                        have c9b0 : decide (x6_3 < (l0.length : Int)) = false := decide_eq_false c9
                        clear c9
                        have H' := Aside0.mk H
                        clear H
                        go_wp2
                        go_roundg k3
                        case measure => have := HK1.out; have := HK2.out; have := HK3.out; omega
                        case rel => exact ⟨(wrap64 (x5_2 + 1)), (by first | rfl | (simp; done) | (simp [*]; done)), H', ⟨by have := HK1.out; have := HK2.out; have := HK3.out; omega⟩, by repeat (first | exact Drawn0.refl _ | apply Drawn0.step)⟩
                · rw [if_neg c8] at H
                  have c8b0 : decide (x5_2 < (l0.length : Int)) = false := decide_eq_false c8
                  clear c8
                  have H' := Aside0.mk H
                  clear H
                  go_wp2
                  go_loopg [7] k2 (fun kq v7 w' => ∃ (x7_3 : Int), v7 = .int .i64 x7_3 ∧ Aside0 (galoisref27_CheckTable.l3 kq l0 (l0.length : Int) x7_3 = some r) ∧ Aside0 (kq ≤ k2) ∧ Drawn0 w w')
                  case atStart => exact ⟨(0), (by first | rfl | (simp; done) | (simp [*]; done)), H', ⟨Nat.le_refl _⟩, by repeat (first | exact Drawn0.refl _ | apply Drawn0.step)⟩
                  case round =>
                    clear H'
                    try clear c1
                    try clear c2
                    try clear c2b0
                    try clear c2b1
                    try clear c2b2
                    try clear p2
                    try clear q2
                    try clear hx2
                    try clear c3
                    try clear c3b0
                    try clear c3b1
                    try clear c4
                    try clear c4b0
                    try clear c5
                    try clear c5b0
                    try clear c6
                    try clear c6b0
                    try clear p6
                    try clear c7
                    try clear c7b0
                    try clear c7b1
                    try clear c7b2
                    try clear c8
                    try clear c8b0
                    try clear c9
                    try clear c9b0
                    try clear c10
                    try clear c10b0
                    try clear c11
                    try clear c11b0
                    try clear c12
                    try clear c12b0
                    try clear c13
                    try clear c13b0
                    try clear c14
                    try clear c14b0
                    try clear c15
                    try clear c15b0
                    try clear hx208_0
                    try clear hx209_0
                    try clear hx210_0
                    try clear hx211_0
                    try clear hx212_0
                    try clear p2
                    try clear p208
                    try clear p209
                    try clear p210
                    try clear p211
                    try clear p212
                    try clear p6
                    try clear q2
                    try clear q208
                    try clear q209
                    try clear q210
                    try clear q211
                    try clear q212
                    obtain ⟨x7_3, rfl, HA, HK3, ⟨m3, rfl⟩⟩ := hrel
                    cases gk with
                    | zero => exact absurd HA.out (by simp [galoisref27_CheckTable.l3])
                    | succ k3 =>
                      have H := HA.out
                      clear HA
                      simp only [galoisref27_CheckTable.l3] at H
                      by_cases c16 : x7_3 < (l0.length : Int)
                      · rw [if_pos c16] at H
                        have c16b0 : decide (x7_3 < (l0.length : Int)) = true := decide_eq_true c16
                        clear c16
                        by_cases c17 : 0 < (l0.length : Int)
                        · rw [if_pos c17] at H
                          have c17b0 : decide (0 < (l0.length : Int)) = true := decide_eq_true c17
                          have c17b1 : decide (0 < l0.length) = true := decide_eq_true (by omega)
                          clear c17
                          by_cases c18 : 0 ≤ x7_3
                          · rw [if_pos c18] at H
                            have c18b0 : decide (0 ≤ x7_3) = true := decide_eq_true c18
                            clear c18
                            by_cases c19 : x7_3 < ((rd_L1 l0 0).length : Int)
                            · rw [if_pos c19] at H
                              have c19b0 : decide (x7_3 < ((rd_L1 l0 0).length : Int)) = true := decide_eq_true c19
                              clear c19
                              by_cases c20 : (rd (rd_L1 l0 0) x7_3) = x7_3
                              · rw [if_pos c20] at H
                                have c20b0 : ((rd (rd_L1 l0 0) x7_3) == x7_3) = true := beq_iff_eq.mpr c20
                                have c20b1 : ((rd (rd_L1 l0 0) x7_3) != x7_3) = false := bne_eq_false_iff_eq.mpr c20
                                clear c20
                                by_cases c21 : x7_3 < (l0.length : Int)
                                · rw [if_pos c21] at H
                                  have c21b0 : decide (x7_3 < (l0.length : Int)) = true := decide_eq_true c21
                                  clear c21
                                  by_cases c22 : 0 < ((rd_L1 l0 x7_3).length : Int)
                                  · rw [if_pos c22] at H
                                    have c22b0 : decide (0 < ((rd_L1 l0 x7_3).length : Int)) = true := decide_eq_true c22
                                    have c22b1 : decide (0 < (rd_L1 l0 x7_3).length) = true := decide_eq_true (by omega)
                                    clear c22
                                    by_cases c23 : (rd (rd_L1 l0 x7_3) 0) = x7_3
                                    · rw [if_pos c23] at H
                                      have c23b0 : ((rd (rd_L1 l0 x7_3) 0) == x7_3) = true := beq_iff_eq.mpr c23
                                      have c23b1 : ((rd (rd_L1 l0 x7_3) 0) != x7_3) = false := bne_eq_false_iff_eq.mpr c23
                                      clear c23
                                      have H' := Aside0.mk H
                                      clear H
                                      have p213 : 0 ≤ (0 : Int) := (by omega)
                                      have q213 : 0 < (l0.length : Int) := of_decide_eq_true (by first | (with_reducible assumption) | assumption)
                                      obtain ⟨ad213, A213_0, c213_0, e213, hx213_0, hl213_0, hi213_0⟩ := at_L1 HR0.out 0 p213 q213
                                      cases e213
                                      have qi213 : (0 < l0.length) = True := eq_true (by omega)
                                      (try rw [show ((0 : Int)).toNat = 0 from rfl] at hx213_0)
                                      (try rw [Addr.add_zero'] at hx213_0)
                                      have HR213_0 := Aside0.mk hi213_0
                                      have HC213_0 := Aside0.mk hl213_0
                                      clear hi213_0 hl213_0
                                      replace p213 := eq_true p213
                                      replace q213 := eq_true q213
                                      have p214 : 0 ≤ (x7_3 : Int) := of_decide_eq_true (by first | (with_reducible assumption) | assumption)
                                      have q214 : x7_3 < ((rd_L1 l0 0).length : Int) := of_decide_eq_true (by first | (with_reducible assumption) | assumption)
                                      obtain ⟨ad214, e214, hx214_0⟩ := Kd.at_int HR213_0.out x7_3 p214 q214
                                      cases e214
                                      replace p214 := eq_true p214
                                      replace q214 := eq_true q214
                                      have p215 : 0 ≤ (x7_3 : Int) := of_decide_eq_true (by first | (with_reducible assumption) | assumption)
                                      have q215 : x7_3 < (l0.length : Int) := of_decide_eq_true (by first | (with_reducible assumption) | assumption)
                                      obtain ⟨ad215, A215_0, c215_0, e215, hx215_0, hl215_0, hi215_0⟩ := at_L1 HR0.out x7_3 p215 q215
                                      obtain rfl : ad213 = ad215 := (by injection e215)
                                      have HR215_0 := Aside0.mk hi215_0
                                      have HC215_0 := Aside0.mk hl215_0
                                      clear hi215_0 hl215_0
                                      replace p215 := eq_true p215
                                      replace q215 := eq_true q215
                                      have p216 : 0 ≤ (0 : Int) := (by omega)
                                      have q216 : 0 < ((rd_L1 l0 x7_3).length : Int) := of_decide_eq_true (by first | (with_reducible assumption) | assumption)
                                      obtain ⟨ad216, e216, hx216_0⟩ := Kd.at_int HR215_0.out 0 p216 q216
                                      cases e216
                                      have qi216 : (0 < (rd_L1 l0 x7_3).length) = True := eq_true (by omega)
                                      (try rw [show ((0 : Int)).toNat = 0 from rfl] at hx216_0)
                                      (try rw [Addr.add_zero'] at hx216_0)
                                      replace p216 := eq_true p216
                                      replace q216 := eq_true q216
                                      go_wp2
                                      go_roundg k3
                                      case measure => have := HK1.out; have := HK2.out; have := HK3.out; omega
                                      case rel => exact ⟨(wrap64 (x7_3 + 1)), (by first | rfl | (simp; done) | (simp [*]; done)), H', ⟨by have := HK1.out; have := HK2.out; have := HK3.out; omega⟩, by repeat (first | exact Drawn0.refl _ | apply Drawn0.step)⟩
                                    · rw [if_neg c23] at H
                                      have c23b0 : ((rd (rd_L1 l0 x7_3) 0) == x7_3) = false := beq_eq_false_iff_ne.mpr c23
                                      have c23b1 : ((rd (rd_L1 l0 x7_3) 0) != x7_3) = true := bne_iff_ne.mpr c23
                                      obtain rfl := Option.some.inj H
                                      have p213 : 0 ≤ (0 : Int) := (by omega)
                                      have q213 : 0 < (l0.length : Int) := of_decide_eq_true (by first | (with_reducible assumption) | assumption)
                                      obtain ⟨ad213, A213_0, c213_0, e213, hx213_0, hl213_0, hi213_0⟩ := at_L1 HR0.out 0 p213 q213
                                      cases e213
                                      have qi213 : (0 < l0.length) = True := eq_true (by omega)
                                      (try rw [show ((0 : Int)).toNat = 0 from rfl] at hx213_0)
                                      (try rw [Addr.add_zero'] at hx213_0)
                                      have HR213_0 := Aside0.mk hi213_0
                                      have HC213_0 := Aside0.mk hl213_0
                                      clear hi213_0 hl213_0
                                      replace p213 := eq_true p213
                                      replace q213 := eq_true q213
                                      have p214 : 0 ≤ (x7_3 : Int) := of_decide_eq_true (by first | (with_reducible assumption) | assumption)
                                      have q214 : x7_3 < ((rd_L1 l0 0).length : Int) := of_decide_eq_true (by first | (with_reducible assumption) | assumption)
                                      obtain ⟨ad214, e214, hx214_0⟩ := Kd.at_int HR213_0.out x7_3 p214 q214
                                      cases e214
                                      replace p214 := eq_true p214
                                      replace q214 := eq_true q214
                                      have p215 : 0 ≤ (x7_3 : Int) := of_decide_eq_true (by first | (with_reducible assumption) | assumption)
                                      have q215 : x7_3 < (l0.length : Int) := of_decide_eq_true (by first | (with_reducible assumption) | assumption)
                                      obtain ⟨ad215, A215_0, c215_0, e215, hx215_0, hl215_0, hi215_0⟩ := at_L1 HR0.out x7_3 p215 q215
                                      obtain rfl : ad213 = ad215 := (by injection e215)
                                      have HR215_0 := Aside0.mk hi215_0
                                      have HC215_0 := Aside0.mk hl215_0
                                      clear hi215_0 hl215_0
                                      replace p215 := eq_true p215
                                      replace q215 := eq_true q215
                                      have p216 : 0 ≤ (0 : Int) := (by omega)
                                      have q216 : 0 < ((rd_L1 l0 x7_3).length : Int) := of_decide_eq_true (by first | (with_reducible assumption) | assumption)
                                      obtain ⟨ad216, e216, hx216_0⟩ := Kd.at_int HR215_0.out 0 p216 q216
                                      cases e216
                                      have qi216 : (0 < (rd_L1 l0 x7_3).length) = True := eq_true (by omega)
                                      (try rw [show ((0 : Int)).toNat = 0 from rfl] at hx216_0)
                                      (try rw [Addr.add_zero'] at hx216_0)
                                      replace p216 := eq_true p216
                                      replace q216 := eq_true q216
                                      go_wp2
                                      go_ret
                                      exact ⟨by first | rfl | (simp; done) | (simp [*]; done), by repeat (first | exact Drawn0.refl _ | apply Drawn0.step)⟩
                                  · rw [if_neg c22] at H
                                    exact absurd H (by simp)
                                · rw [if_neg c21] at H
                                  exact absurd H (by simp)
                              · rw [if_neg c20] at H
                                have c20b0 : ((rd (rd_L1 l0 0) x7_3) == x7_3) = false := beq_eq_false_iff_ne.mpr c20
                                have c20b1 : ((rd (rd_L1 l0 0) x7_3) != x7_3) = true := bne_iff_ne.mpr c20
                                obtain rfl := Option.some.inj H
                                have p213 : 0 ≤ (0 : Int) := (by omega)
                                have q213 : 0 < (l0.length : Int) := of_decide_eq_true (by first | (with_reducible assumption) | assumption)
                                obtain ⟨ad213, A213_0, c213_0, e213, hx213_0, hl213_0, hi213_0⟩ := at_L1 HR0.out 0 p213 q213
                                cases e213
                                have qi213 : (0 < l0.length) = True := eq_true (by omega)
                                (try rw [show ((0 : Int)).toNat = 0 from rfl] at hx213_0)
                                (try rw [Addr.add_zero'] at hx213_0)
                                have HR213_0 := Aside0.mk hi213_0
                                have HC213_0 := Aside0.mk hl213_0
                                clear hi213_0 hl213_0
                                replace p213 := eq_true p213
                                replace q213 := eq_true q213
                                have p214 : 0 ≤ (x7_3 : Int) := of_decide_eq_true (by first | (with_reducible assumption) | assumption)
                                have q214 : x7_3 < ((rd_L1 l0 0).length : Int) := of_decide_eq_true (by first | (with_reducible assumption) | assumption)
                                obtain ⟨ad214, e214, hx214_0⟩ := Kd.at_int HR213_0.out x7_3 p214 q214
                                cases e214
                                replace p214 := eq_true p214
                                replace q214 := eq_true q214
                                go_wp2
                                go_ret
                                exact ⟨by first | rfl | (simp; done) | (simp [*]; done), by repeat (first | exact Drawn0.refl _ | apply Drawn0.step)⟩
                            · rw [if_neg c19] at H
                              exact absurd H (by simp)
                          · rw [if_neg c18] at H
                            exact absurd H (by simp)
                        · rw [if_neg c17] at H
                          exact absurd H (by simp)
                      · rw [if_neg c16] at H
                        have c16b0 : decide (x7_3 < (l0.length : Int)) = false := decide_eq_false c16
                        clear c16
                        replace H := Option.bind_eq_some_iff.mp H
                        obtain ⟨t217, A240, H⟩ := H
                        replace H : (if t217 = true then ((galoisref27_associative.f k3 l0).bind fun t218 => (if t218 = true then (some 0) else (some 15))) else (some 15)) = some r := H
                        have A24 := Aside0.mk A240
                        clear A240
                        by_cases c25 : t217 = true
                        · subst c25
                          have H1 : ((galoisref27_associative.f k3 l0).bind fun t218 => (if t218 = true then (some 0) else (some 15))) = some r := by rw [if_pos rfl] at H; exact H
                          clear H
                          have H := H1
                          clear H1
                          replace H := Option.bind_eq_some_iff.mp H
                          obtain ⟨t218, A260, H⟩ := H
                          replace H : (if t218 = true then (some 0) else (some 15)) = some r := H
                          have A26 := Aside0.mk A260
                          clear A260
                          by_cases c27 : t218 = true
                          · subst c27
                            have H1 : (some 0) = some r := by rw [if_pos rfl] at H; exact H
                            clear H
                            have H := H1
                            clear H1
                            obtain rfl := Option.some.inj H
                            go_wp2_with (first | ((with_reducible refine gate_callee (f := 67) rfl ?_); refine goesL_ (some 79) rfl rfl Try.func67 (by kernel_rfl) rfl #[.slice A0 l0.length c0] rfl (by (try simp only [List.map_toArray, List.map_cons, List.map_nil]); first | done | rfl | (simp only [List.length_drop, List.length_take]; rfl)) ?_; (with_reducible refine (galoisref27_rows.calls k3 _ _ l0 true _ ?side1 ?side2 A24.out).mono ?_); (case side1 => repeat (first | exact HR0.out | (with_reducible refine Kd.C_alloc ?_ _) | (with_reducible refine Kd.C_drewN ?_ _) | (with_reducible refine Kd.C_drew ?_))); (case side2 => exact HC0.out); rintro e w' ⟨rfl, ⟨nd, rfl⟩⟩; refine ⟨_, rfl, ?_⟩) | (go_at_call 68; (with_reducible refine (galoisref27_associative.calls k3 _ _ l0 true _ ?side1 ?side2 A26.out).mono ?_); (case side1 => repeat (first | exact HR0.out | (with_reducible refine Kd.C_alloc ?_ _) | (with_reducible refine Kd.C_drewN ?_ _) | (with_reducible refine Kd.C_drew ?_))); (case side2 => exact HC0.out); rintro e w' ⟨rfl, ⟨nd, rfl⟩⟩))
                            go_ret
                            exact ⟨by first | rfl | (simp; done) | (simp [*]; done), by repeat (first | exact Drawn0.refl _ | apply Drawn0.step)⟩
                          · replace c27 := Bool.eq_false_iff.mpr c27
                            subst c27
                            have H1 : (some 15) = some r := by rw [if_neg (show ¬ (false = true) by decide)] at H; exact H
                            clear H
                            have H := H1
                            clear H1
                            obtain rfl := Option.some.inj H
                            go_wp2_with (first | ((with_reducible refine gate_callee (f := 67) rfl ?_); refine goesL_ (some 79) rfl rfl Try.func67 (by kernel_rfl) rfl #[.slice A0 l0.length c0] rfl (by (try simp only [List.map_toArray, List.map_cons, List.map_nil]); first | done | rfl | (simp only [List.length_drop, List.length_take]; rfl)) ?_; (with_reducible refine (galoisref27_rows.calls k3 _ _ l0 true _ ?side1 ?side2 A24.out).mono ?_); (case side1 => repeat (first | exact HR0.out | (with_reducible refine Kd.C_alloc ?_ _) | (with_reducible refine Kd.C_drewN ?_ _) | (with_reducible refine Kd.C_drew ?_))); (case side2 => exact HC0.out); rintro e w' ⟨rfl, ⟨nd, rfl⟩⟩; refine ⟨_, rfl, ?_⟩) | (go_at_call 68; (with_reducible refine (galoisref27_associative.calls k3 _ _ l0 false _ ?side1 ?side2 A26.out).mono ?_); (case side1 => repeat (first | exact HR0.out | (with_reducible refine Kd.C_alloc ?_ _) | (with_reducible refine Kd.C_drewN ?_ _) | (with_reducible refine Kd.C_drew ?_))); (case side2 => exact HC0.out); rintro e w' ⟨rfl, ⟨nd, rfl⟩⟩))
                            go_ret
                            exact ⟨by first | rfl | (simp; done) | (simp [*]; done), by repeat (first | exact Drawn0.refl _ | apply Drawn0.step)⟩
                        · replace c25 := Bool.eq_false_iff.mpr c25
                          subst c25
                          have H1 : (some 15) = some r := by rw [if_neg (show ¬ (false = true) by decide)] at H; exact H
                          clear H
                          have H := H1
                          clear H1
                          obtain rfl := Option.some.inj H
                          go_wp2_with (first | ((with_reducible refine gate_callee (f := 67) rfl ?_); refine goesL_ (some 79) rfl rfl Try.func67 (by kernel_rfl) rfl #[.slice A0 l0.length c0] rfl (by (try simp only [List.map_toArray, List.map_cons, List.map_nil]); first | done | rfl | (simp only [List.length_drop, List.length_take]; rfl)) ?_; (with_reducible refine (galoisref27_rows.calls k3 _ _ l0 false _ ?side1 ?side2 A24.out).mono ?_); (case side1 => repeat (first | exact HR0.out | (with_reducible refine Kd.C_alloc ?_ _) | (with_reducible refine Kd.C_drewN ?_ _) | (with_reducible refine Kd.C_drew ?_))); (case side2 => exact HC0.out); rintro e w' ⟨rfl, ⟨nd, rfl⟩⟩; refine ⟨_, rfl, ?_⟩))
                          go_ret
                          exact ⟨by first | rfl | (simp; done) | (simp [*]; done), by repeat (first | exact Drawn0.refl _ | apply Drawn0.step)⟩
end Go.Proofs.Ytaaaljifclecnaa.PCk
