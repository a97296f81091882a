-- Printed by wip/tools/mk.py of this repo (the kit's print with turns made in memory).
import Derived.Test.YtaaaljifclecnaaZCosetChecksPCkx0
namespace Go.Proofs.Ytaaaljifclecnaa.PCk
open Go.RowKit Go.Proofs.YtaaaljifclecnaaW.PrintWords Go.Proofs.YtaaaljifclecnaaW.PrintLast Go.Proofs.YtaaaljifclecnaaW.PrintMore
attribute [local go_sem] max2_int min2_int max_two min_two max_three min_three max_four min_four   -- for this text's walks alone
set_option linter.unusedVariables false
set_option linter.unusedSimpArgs false
mutual
def galoisref27_associative.l0 : Nat → List (List Int) → Int → Option (Bool)
  | 0, _, _ => none
  | k + 1, x0, x3 => if x3 < (x0.length : Int) then (galoisref27_associative.l1 k x0 x3 0) else (some true)
def galoisref27_associative.l1 : Nat → List (List Int) → Int → Int → Option (Bool)
  | 0, _, _, _ => none
  | k + 1, x0, x3, x4 => if x4 < (x0.length : Int) then (galoisref27_associative.l2 k x0 x3 x4 0) else (galoisref27_associative.l0 k x0 (wrap64 (x3 + 1)))
def galoisref27_associative.l2 : Nat → List (List Int) → Int → Int → Int → Option (Bool)
  | 0, _, _, _, _ => none
  | k + 1, x0, x3, x4, x5 => if x5 < (x0.length : Int) then (if 0 ≤ x3 then (if x3 < (x0.length : Int) then (if 0 ≤ x4 then (if x4 < ((rd_L1 x0 x3).length : Int) then (if 0 ≤ (rd (rd_L1 x0 x3) x4) then (if (rd (rd_L1 x0 x3) x4) < (x0.length : Int) then (if 0 ≤ x5 then (if x5 < ((rd_L1 x0 (rd (rd_L1 x0 x3) x4)).length : Int) then (if x4 < (x0.length : Int) then (if x5 < ((rd_L1 x0 x4).length : Int) then (if 0 ≤ (rd (rd_L1 x0 x4) x5) then (if (rd (rd_L1 x0 x4) x5) < ((rd_L1 x0 x3).length : Int) then (if (rd (rd_L1 x0 (rd (rd_L1 x0 x3) x4)) x5) = (rd (rd_L1 x0 x3) (rd (rd_L1 x0 x4) x5)) then (galoisref27_associative.l2 k x0 x3 x4 (wrap64 (x5 + 1))) else (some false)) else (none)) else (none)) else (none)) else (none)) else (none)) else (none)) else (none)) else (none)) else (none)) else (none)) else (none)) else (none)) else (galoisref27_associative.l1 k x0 x3 (wrap64 (x4 + 1)))
end
def galoisref27_associative.f (k : Nat) (l0 : List (List Int)) : Option (Bool) := galoisref27_associative.l0 k l0 0
theorem galoisref27_associative.mono_l : ∀ k, (∀ y0 y1, LeO (galoisref27_associative.l0 k y0 y1) (galoisref27_associative.l0 (k + 1) y0 y1)) ∧ (∀ y0 y1 y2, LeO (galoisref27_associative.l1 k y0 y1 y2) (galoisref27_associative.l1 (k + 1) y0 y1 y2)) ∧ (∀ y0 y1 y2 y3, LeO (galoisref27_associative.l2 k y0 y1 y2 y3) (galoisref27_associative.l2 (k + 1) y0 y1 y2 y3))
  | 0 => ⟨fun _ _ r h => by simp [galoisref27_associative.l0] at h, fun _ _ _ r h => by simp [galoisref27_associative.l1] at h, fun _ _ _ _ r h => by simp [galoisref27_associative.l2] at h⟩
  | k + 1 => by
    obtain ⟨ih0, ih1, ih2⟩ := galoisref27_associative.mono_l k
    refine ⟨?_, ?_, ?_⟩
    · intro y0 y1
      unfold galoisref27_associative.l0
      repeat' first
      | (with_reducible exact ih0 _ _)
      | (with_reducible exact ih1 _ _ _)
      | (with_reducible exact ih2 _ _ _ _)
      | (with_reducible exact LeO.refl _)
      | (with_reducible exact LeO.none _)
      | (with_reducible refine LeO.ite ?_ ?_)
      | (with_reducible refine LeO.bind ?_ (fun _ => ?_))
      | exact ih0 _ _
      | exact ih1 _ _ _
      | exact ih2 _ _ _ _
      | exact LeO.none _
      | refine LeO.ite ?_ ?_
      | refine LeO.bind ?_ (fun _ => ?_)
    · intro y0 y1 y2
      unfold galoisref27_associative.l1
      repeat' first
      | (with_reducible exact ih0 _ _)
      | (with_reducible exact ih1 _ _ _)
      | (with_reducible exact ih2 _ _ _ _)
      | (with_reducible exact LeO.refl _)
      | (with_reducible exact LeO.none _)
      | (with_reducible refine LeO.ite ?_ ?_)
      | (with_reducible refine LeO.bind ?_ (fun _ => ?_))
      | exact ih0 _ _
      | exact ih1 _ _ _
      | exact ih2 _ _ _ _
      | exact LeO.none _
      | refine LeO.ite ?_ ?_
      | refine LeO.bind ?_ (fun _ => ?_)
    · intro y0 y1 y2 y3
      unfold galoisref27_associative.l2
      repeat' first
      | (with_reducible exact ih0 _ _)
      | (with_reducible exact ih1 _ _ _)
      | (with_reducible exact ih2 _ _ _ _)
      | (with_reducible exact LeO.refl _)
      | (with_reducible exact LeO.none _)
      | (with_reducible refine LeO.ite ?_ ?_)
      | (with_reducible refine LeO.bind ?_ (fun _ => ?_))
      | exact ih0 _ _
      | exact ih1 _ _ _
      | exact ih2 _ _ _ _
      | exact LeO.none _
      | refine LeO.ite ?_ ?_
      | refine LeO.bind ?_ (fun _ => ?_)
theorem galoisref27_associative.mono : ∀ a0 k, LeO (galoisref27_associative.f k a0) (galoisref27_associative.f (k + 1) a0) := by
  intro a0 k
  obtain ⟨ih0, ih1, ih2⟩ := galoisref27_associative.mono_l k
  unfold galoisref27_associative.f
  repeat' first
      | (with_reducible exact ih0 _ _)
      | (with_reducible exact ih1 _ _ _)
      | (with_reducible exact ih2 _ _ _ _)
      | (with_reducible exact LeO.refl _)
      | (with_reducible exact LeO.none _)
      | (with_reducible refine LeO.ite ?_ ?_)
      | (with_reducible refine LeO.bind ?_ (fun _ => ?_))
      | exact ih0 _ _
      | exact ih1 _ _ _
      | exact ih2 _ _ _ _
      | exact LeO.none _
      | refine LeO.ite ?_ ?_
      | refine LeO.bind ?_ (fun _ => ?_)
set_option maxHeartbeats 8000000 in
set_option maxRecDepth 100000 in
theorem galoisref27_associative.calls (k : Nat) (A0 : Option Addr) (c0 : Nat) (l0 : List (List Int)) (r : Bool) (w : World) (hr0 : Kd.C (Kd.slice 3 (Kd.int .i64)) w A0 l0.length l0) (hc0 : l0.length ≤ c0) (h : galoisref27_associative.f k l0 = some r) :
    Calls Try.prog 68 #[.slice A0 l0.length c0] w fun e w' => e = .returned (.bool r) ∧ Drawn0 w w' := by
  have HR0 := Aside0.mk hr0
  have HC0 := Aside0.mk hc0
  clear hr0 hc0
  have H : (galoisref27_associative.l0 k l0 0) = some r := h
  clear h
  have H' := Aside0.mk H
  clear H
  go_enter Try.func68, Try.ntmps68
  go_wp2
  repeat (go_quiet (fail); try go_wp2)
  go_loopg [3] k (fun kq v3 w' => ∃ (x3_1 : Int), v3 = .int .i64 x3_1 ∧ Aside0 (galoisref27_associative.l0 kq l0 x3_1 = some r) ∧ Aside0 (kq ≤ k) ∧ Drawn0 w w')
  case atStart => exact ⟨(0), (by first | rfl | (simp; done) | (simp [*]; done)), H', ⟨Nat.le_refl _⟩, by repeat (first | exact Drawn0.refl _ | apply Drawn0.step)⟩
  case round =>
    clear H'
    obtain ⟨x3_1, rfl, HA, HK1, ⟨m1, rfl⟩⟩ := hrel
    cases gk with
    | zero => exact absurd HA.out (by simp [galoisref27_associative.l0])
    | succ k1 =>
      have H := HA.out
      clear HA
      simp only [galoisref27_associative.l0] at H
      by_cases c2 : x3_1 < (l0.length : Int)
      · rw [if_pos c2] at H
        have c2b0 : decide (x3_1 < (l0.length : Int)) = true := decide_eq_true c2
        clear c2
        have H' := Aside0.mk H
        clear H
        go_wp2
        repeat (go_quiet (fail); try go_wp2)
        go_loopg [4] k1 (fun kq v4 w' => ∃ (x4_2 : Int), v4 = .int .i64 x4_2 ∧ Aside0 (galoisref27_associative.l1 kq l0 x3_1 x4_2 = some r) ∧ Aside0 (kq ≤ k1) ∧ Drawn0 w w')
        case atStart => exact ⟨(0), (by first | rfl | (simp; done) | (simp [*]; done)), H', ⟨Nat.le_refl _⟩, by repeat (first | exact Drawn0.refl _ | apply Drawn0.step)⟩
        case round =>
          clear H'
          try clear c2
          try clear c2b0
          try clear p2
          obtain ⟨x4_2, rfl, HA, HK2, ⟨m2, rfl⟩⟩ := hrel
          cases gk with
          | zero => exact absurd HA.out (by simp [galoisref27_associative.l1])
          | succ k2 =>
            have H := HA.out
            clear HA
            simp only [galoisref27_associative.l1] at H
            by_cases c3 : x4_2 < (l0.length : Int)
            · rw [if_pos c3] at H
              have c3b0 : decide (x4_2 < (l0.length : Int)) = true := decide_eq_true c3
              clear c3
              have H' := Aside0.mk H
              clear H
              go_wp2
              repeat (go_quiet (fail); try go_wp2)
              go_loopg [5] k2 (fun kq v5 w' => ∃ (x5_3 : Int), v5 = .int .i64 x5_3 ∧ Aside0 (galoisref27_associative.l2 kq l0 x3_1 x4_2 x5_3 = some r) ∧ Aside0 (kq ≤ k2) ∧ Drawn0 w w')
              case atStart => exact ⟨(0), (by first | rfl | (simp; done) | (simp [*]; done)), H', ⟨Nat.le_refl _⟩, by repeat (first | exact Drawn0.refl _ | apply Drawn0.step)⟩
              case round =>
                clear H'
                try clear c2
                try clear c2b0
                try clear p2
                try clear c3
                try clear c3b0
                try clear p2
                obtain ⟨x5_3, rfl, HA, HK3, ⟨m3, rfl⟩⟩ := hrel
                cases gk with
                | zero => exact absurd HA.out (by simp [galoisref27_associative.l2])
                | succ k3 =>
                  have H := HA.out
                  clear HA
                  simp only [galoisref27_associative.l2] at H
                  by_cases c4 : x5_3 < (l0.length : Int)
                  · rw [if_pos c4] at H
                    have c4b0 : decide (x5_3 < (l0.length : Int)) = true := decide_eq_true c4
                    clear c4
                    by_cases c5 : 0 ≤ x3_1
                    · rw [if_pos c5] at H
                      have c5b0 : decide (0 ≤ x3_1) = true := decide_eq_true c5
                      clear c5
                      by_cases c6 : x3_1 < (l0.length : Int)
                      · rw [if_pos c6] at H
                        have c6b0 : decide (x3_1 < (l0.length : Int)) = true := decide_eq_true c6
                        clear c6
                        by_cases c7 : 0 ≤ x4_2
                        · rw [if_pos c7] at H
                          have c7b0 : decide (0 ≤ x4_2) = true := decide_eq_true c7
                          clear c7
                          by_cases c8 : x4_2 < ((rd_L1 l0 x3_1).length : Int)
                          · rw [if_pos c8] at H
                            have c8b0 : decide (x4_2 < ((rd_L1 l0 x3_1).length : Int)) = true := decide_eq_true c8
                            clear c8
                            by_cases c9 : 0 ≤ (rd (rd_L1 l0 x3_1) x4_2)
                            · rw [if_pos c9] at H
                              have c9b0 : decide (0 ≤ (rd (rd_L1 l0 x3_1) x4_2)) = true := decide_eq_true c9
                              clear c9
                              by_cases c10 : (rd (rd_L1 l0 x3_1) x4_2) < (l0.length : Int)
                              · rw [if_pos c10] at H
                                have c10b0 : decide ((rd (rd_L1 l0 x3_1) x4_2) < (l0.length : Int)) = true := decide_eq_true c10
                                clear c10
                                by_cases c11 : 0 ≤ x5_3
                                · rw [if_pos c11] at H
                                  have c11b0 : decide (0 ≤ x5_3) = true := decide_eq_true c11
                                  clear c11
                                  by_cases c12 : x5_3 < ((rd_L1 l0 (rd (rd_L1 l0 x3_1) x4_2)).length : Int)
                                  · rw [if_pos c12] at H
                                    have c12b0 : decide (x5_3 < ((rd_L1 l0 (rd (rd_L1 l0 x3_1) x4_2)).length : Int)) = true := decide_eq_true c12
                                    clear c12
                                    by_cases c13 : x4_2 < (l0.length : Int)
                                    · rw [if_pos c13] at H
                                      have c13b0 : decide (x4_2 < (l0.length : Int)) = true := decide_eq_true c13
                                      clear c13
                                      by_cases c14 : x5_3 < ((rd_L1 l0 x4_2).length : Int)
                                      · rw [if_pos c14] at H
                                        have c14b0 : decide (x5_3 < ((rd_L1 l0 x4_2).length : Int)) = true := decide_eq_true c14
                                        clear c14
                                        by_cases c15 : 0 ≤ (rd (rd_L1 l0 x4_2) x5_3)
                                        · rw [if_pos c15] at H
                                          have c15b0 : decide (0 ≤ (rd (rd_L1 l0 x4_2) x5_3)) = true := decide_eq_true c15
                                          clear c15
                                          by_cases c16 : (rd (rd_L1 l0 x4_2) x5_3) < ((rd_L1 l0 x3_1).length : Int)
                                          · rw [if_pos c16] at H
                                            have c16b0 : decide ((rd (rd_L1 l0 x4_2) x5_3) < ((rd_L1 l0 x3_1).length : Int)) = true := decide_eq_true c16
                                            clear c16
                                            by_cases c17 : (rd (rd_L1 l0 (rd (rd_L1 l0 x3_1) x4_2)) x5_3) = (rd (rd_L1 l0 x3_1) (rd (rd_L1 l0 x4_2) x5_3))
                                            · rw [if_pos c17] at H
                                              have c17b0 : ((rd (rd_L1 l0 (rd (rd_L1 l0 x3_1) x4_2)) x5_3) == (rd (rd_L1 l0 x3_1) (rd (rd_L1 l0 x4_2) x5_3))) = true := beq_iff_eq.mpr c17
                                              have c17b1 : ((rd (rd_L1 l0 (rd (rd_L1 l0 x3_1) x4_2)) x5_3) != (rd (rd_L1 l0 x3_1) (rd (rd_L1 l0 x4_2) x5_3))) = false := bne_eq_false_iff_eq.mpr c17
                                              clear c17
                                              have H' := Aside0.mk H
                                              clear H
                                              have p200 : 0 ≤ (x3_1 : Int) := of_decide_eq_true (by first | (with_reducible assumption) | assumption)
                                              have q200 : x3_1 < (l0.length : Int) := of_decide_eq_true (by first | (with_reducible assumption) | assumption)
                                              obtain ⟨ad200, A200_0, c200_0, e200, hx200_0, hl200_0, hi200_0⟩ := at_L1 HR0.out x3_1 p200 q200
                                              cases e200
                                              have HR200_0 := Aside0.mk hi200_0
                                              have HC200_0 := Aside0.mk hl200_0
                                              clear hi200_0 hl200_0
                                              replace p200 := eq_true p200
                                              replace q200 := eq_true q200
                                              have p201 : 0 ≤ (x4_2 : Int) := of_decide_eq_true (by first | (with_reducible assumption) | assumption)
                                              have q201 : x4_2 < ((rd_L1 l0 x3_1).length : Int) := of_decide_eq_true (by first | (with_reducible assumption) | assumption)
                                              obtain ⟨ad201, e201, hx201_0⟩ := Kd.at_int HR200_0.out x4_2 p201 q201
                                              cases e201
                                              replace p201 := eq_true p201
                                              replace q201 := eq_true q201
                                              have p202 : 0 ≤ ((rd (rd_L1 l0 x3_1) x4_2) : Int) := of_decide_eq_true (by first | (with_reducible assumption) | assumption)
                                              have q202 : (rd (rd_L1 l0 x3_1) x4_2) < (l0.length : Int) := of_decide_eq_true (by first | (with_reducible assumption) | assumption)
                                              obtain ⟨ad202, A202_0, c202_0, e202, hx202_0, hl202_0, hi202_0⟩ := at_L1 HR0.out (rd (rd_L1 l0 x3_1) x4_2) p202 q202
                                              obtain rfl : ad200 = ad202 := (by injection e202)
                                              have HR202_0 := Aside0.mk hi202_0
                                              have HC202_0 := Aside0.mk hl202_0
                                              clear hi202_0 hl202_0
                                              replace p202 := eq_true p202
                                              replace q202 := eq_true q202
                                              have p203 : 0 ≤ (x5_3 : Int) := of_decide_eq_true (by first | (with_reducible assumption) | assumption)
                                              have q203 : x5_3 < ((rd_L1 l0 (rd (rd_L1 l0 x3_1) x4_2)).length : Int) := of_decide_eq_true (by first | (with_reducible assumption) | assumption)
                                              obtain ⟨ad203, e203, hx203_0⟩ := Kd.at_int HR202_0.out x5_3 p203 q203
                                              cases e203
                                              replace p203 := eq_true p203
                                              replace q203 := eq_true q203
                                              have p204 : 0 ≤ (x3_1 : Int) := of_decide_eq_true (by first | (with_reducible assumption) | assumption)
                                              have q204 : x3_1 < (l0.length : Int) := of_decide_eq_true (by first | (with_reducible assumption) | assumption)
                                              obtain ⟨ad204, A204_0, c204_0, e204, hx204_0, hl204_0, hi204_0⟩ := at_L1 HR0.out x3_1 p204 q204
                                              obtain rfl : ad200 = ad204 := (by injection e204)
                                              have HR204_0 := Aside0.mk hi204_0
                                              have HC204_0 := Aside0.mk hl204_0
                                              clear hi204_0 hl204_0
                                              replace p204 := eq_true p204
                                              replace q204 := eq_true q204
                                              have ea_ := Option.some.inj (hx200_0.symm.trans hx204_0)
                                              injection ea_ with ea_ en_ ec_
                                              subst ea_
                                              subst ec_
                                              clear en_
                                              have p205 : 0 ≤ (x4_2 : Int) := of_decide_eq_true (by first | (with_reducible assumption) | assumption)
                                              have q205 : x4_2 < (l0.length : Int) := of_decide_eq_true (by first | (with_reducible assumption) | assumption)
                                              obtain ⟨ad205, A205_0, c205_0, e205, hx205_0, hl205_0, hi205_0⟩ := at_L1 HR0.out x4_2 p205 q205
                                              obtain rfl : ad200 = ad205 := (by injection e205)
                                              have HR205_0 := Aside0.mk hi205_0
                                              have HC205_0 := Aside0.mk hl205_0
                                              clear hi205_0 hl205_0
                                              replace p205 := eq_true p205
                                              replace q205 := eq_true q205
                                              have p206 : 0 ≤ (x5_3 : Int) := of_decide_eq_true (by first | (with_reducible assumption) | assumption)
                                              have q206 : x5_3 < ((rd_L1 l0 x4_2).length : Int) := of_decide_eq_true (by first | (with_reducible assumption) | assumption)
                                              obtain ⟨ad206, e206, hx206_0⟩ := Kd.at_int HR205_0.out x5_3 p206 q206
                                              cases e206
                                              replace p206 := eq_true p206
                                              replace q206 := eq_true q206
                                              have p207 : 0 ≤ ((rd (rd_L1 l0 x4_2) x5_3) : Int) := of_decide_eq_true (by first | (with_reducible assumption) | assumption)
                                              have q207 : (rd (rd_L1 l0 x4_2) x5_3) < ((rd_L1 l0 x3_1).length : Int) := of_decide_eq_true (by first | (with_reducible assumption) | assumption)
                                              obtain ⟨ad207, e207, hx207_0⟩ := Kd.at_int HR204_0.out (rd (rd_L1 l0 x4_2) x5_3) p207 q207
                                              cases e207
                                              replace p207 := eq_true p207
                                              replace q207 := eq_true q207
                                              go_wp2
                                              repeat (go_quiet (fail); try go_wp2)
                                              go_roundg k3
                                              case measure => have := HK1.out; have := HK2.out; have := HK3.out; omega
                                              case rel => exact ⟨(wrap64 (x5_3 + 1)), (by first | rfl | (simp; done) | (simp [*]; done)), H', ⟨by have := HK1.out; have := HK2.out; have := HK3.out; omega⟩, by repeat (first | exact Drawn0.refl _ | apply Drawn0.step)⟩
                                            · rw [if_neg c17] at H
                                              have c17b0 : ((rd (rd_L1 l0 (rd (rd_L1 l0 x3_1) x4_2)) x5_3) == (rd (rd_L1 l0 x3_1) (rd (rd_L1 l0 x4_2) x5_3))) = false := beq_eq_false_iff_ne.mpr c17
                                              have c17b1 : ((rd (rd_L1 l0 (rd (rd_L1 l0 x3_1) x4_2)) x5_3) != (rd (rd_L1 l0 x3_1) (rd (rd_L1 l0 x4_2) x5_3))) = true := bne_iff_ne.mpr c17
                                              obtain rfl := Option.some.inj H
                                              have p200 : 0 ≤ (x3_1 : Int) := of_decide_eq_true (by first | (with_reducible assumption) | assumption)
                                              have q200 : x3_1 < (l0.length : Int) := of_decide_eq_true (by first | (with_reducible assumption) | assumption)
                                              obtain ⟨ad200, A200_0, c200_0, e200, hx200_0, hl200_0, hi200_0⟩ := at_L1 HR0.out x3_1 p200 q200
                                              cases e200
                                              have HR200_0 := Aside0.mk hi200_0
                                              have HC200_0 := Aside0.mk hl200_0
                                              clear hi200_0 hl200_0
                                              replace p200 := eq_true p200
                                              replace q200 := eq_true q200
                                              have p201 : 0 ≤ (x4_2 : Int) := of_decide_eq_true (by first | (with_reducible assumption) | assumption)
                                              have q201 : x4_2 < ((rd_L1 l0 x3_1).length : Int) := of_decide_eq_true (by first | (with_reducible assumption) | assumption)
                                              obtain ⟨ad201, e201, hx201_0⟩ := Kd.at_int HR200_0.out x4_2 p201 q201
                                              cases e201
                                              replace p201 := eq_true p201
                                              replace q201 := eq_true q201
                                              have p202 : 0 ≤ ((rd (rd_L1 l0 x3_1) x4_2) : Int) := of_decide_eq_true (by first | (with_reducible assumption) | assumption)
                                              have q202 : (rd (rd_L1 l0 x3_1) x4_2) < (l0.length : Int) := of_decide_eq_true (by first | (with_reducible assumption) | assumption)
                                              obtain ⟨ad202, A202_0, c202_0, e202, hx202_0, hl202_0, hi202_0⟩ := at_L1 HR0.out (rd (rd_L1 l0 x3_1) x4_2) p202 q202
                                              obtain rfl : ad200 = ad202 := (by injection e202)
                                              have HR202_0 := Aside0.mk hi202_0
                                              have HC202_0 := Aside0.mk hl202_0
                                              clear hi202_0 hl202_0
                                              replace p202 := eq_true p202
                                              replace q202 := eq_true q202
                                              have p203 : 0 ≤ (x5_3 : Int) := of_decide_eq_true (by first | (with_reducible assumption) | assumption)
                                              have q203 : x5_3 < ((rd_L1 l0 (rd (rd_L1 l0 x3_1) x4_2)).length : Int) := of_decide_eq_true (by first | (with_reducible assumption) | assumption)
                                              obtain ⟨ad203, e203, hx203_0⟩ := Kd.at_int HR202_0.out x5_3 p203 q203
                                              cases e203
                                              replace p203 := eq_true p203
                                              replace q203 := eq_true q203
                                              have p204 : 0 ≤ (x3_1 : Int) := of_decide_eq_true (by first | (with_reducible assumption) | assumption)
                                              have q204 : x3_1 < (l0.length : Int) := of_decide_eq_true (by first | (with_reducible assumption) | assumption)
                                              obtain ⟨ad204, A204_0, c204_0, e204, hx204_0, hl204_0, hi204_0⟩ := at_L1 HR0.out x3_1 p204 q204
                                              obtain rfl : ad200 = ad204 := (by injection e204)
                                              have HR204_0 := Aside0.mk hi204_0
                                              have HC204_0 := Aside0.mk hl204_0
                                              clear hi204_0 hl204_0
                                              replace p204 := eq_true p204
                                              replace q204 := eq_true q204
                                              have ea_ := Option.some.inj (hx200_0.symm.trans hx204_0)
                                              injection ea_ with ea_ en_ ec_
                                              subst ea_
                                              subst ec_
                                              clear en_
                                              have p205 : 0 ≤ (x4_2 : Int) := of_decide_eq_true (by first | (with_reducible assumption) | assumption)
                                              have q205 : x4_2 < (l0.length : Int) := of_decide_eq_true (by first | (with_reducible assumption) | assumption)
                                              obtain ⟨ad205, A205_0, c205_0, e205, hx205_0, hl205_0, hi205_0⟩ := at_L1 HR0.out x4_2 p205 q205
                                              obtain rfl : ad200 = ad205 := (by injection e205)
                                              have HR205_0 := Aside0.mk hi205_0
                                              have HC205_0 := Aside0.mk hl205_0
                                              clear hi205_0 hl205_0
                                              replace p205 := eq_true p205
                                              replace q205 := eq_true q205
                                              have p206 : 0 ≤ (x5_3 : Int) := of_decide_eq_true (by first | (with_reducible assumption) | assumption)
                                              have q206 : x5_3 < ((rd_L1 l0 x4_2).length : Int) := of_decide_eq_true (by first | (with_reducible assumption) | assumption)
                                              obtain ⟨ad206, e206, hx206_0⟩ := Kd.at_int HR205_0.out x5_3 p206 q206
                                              cases e206
                                              replace p206 := eq_true p206
                                              replace q206 := eq_true q206
                                              have p207 : 0 ≤ ((rd (rd_L1 l0 x4_2) x5_3) : Int) := of_decide_eq_true (by first | (with_reducible assumption) | assumption)
                                              have q207 : (rd (rd_L1 l0 x4_2) x5_3) < ((rd_L1 l0 x3_1).length : Int) := of_decide_eq_true (by first | (with_reducible assumption) | assumption)
                                              obtain ⟨ad207, e207, hx207_0⟩ := Kd.at_int HR204_0.out (rd (rd_L1 l0 x4_2) x5_3) p207 q207
                                              cases e207
                                              replace p207 := eq_true p207
                                              replace q207 := eq_true q207
                                              go_wp2
                                              repeat (go_quiet (fail); try go_wp2)
                                              go_ret
                                              exact ⟨by first | rfl | (simp; done) | (simp [*]; done), by repeat (first | exact Drawn0.refl _ | apply Drawn0.step)⟩
                                          · rw [if_neg c16] at H
                                            exact absurd H (by simp)
                                        · rw [if_neg c15] at H
                                          exact absurd H (by simp)
                                      · rw [if_neg c14] at H
                                        exact absurd H (by simp)
                                    · rw [if_neg c13] at H
                                      exact absurd H (by simp)
                                  · rw [if_neg c12] at H
                                    exact absurd H (by simp)
                                · rw [if_neg c11] at H
                                  exact absurd H (by simp)
                              · rw [if_neg c10] at H
                                exact absurd H (by simp)
                            · rw [if_neg c9] at H
                              exact absurd H (by simp)
                          · rw [if_neg c8] at H
                            exact absurd H (by simp)
                        · rw [if_neg c7] at H
                          exact absurd H (by simp)
                      · rw [if_neg c6] at H
                        exact absurd H (by simp)
                    · rw [if_neg c5] at H
                      exact absurd H (by simp)
                  · rw [if_neg c4] at H
                    have c4b0 : decide (x5_3 < (l0.length : Int)) = false := decide_eq_false c4
                    clear c4
                    have H' := Aside0.mk H
                    clear H
                    go_wp2
                    repeat (go_quiet (fail); try go_wp2)
                    go_roundg k3
                    case measure => have := HK1.out; have := HK2.out; have := HK3.out; omega
                    case rel => exact ⟨(wrap64 (x4_2 + 1)), (by first | rfl | (simp; done) | (simp [*]; done)), H', ⟨by have := HK1.out; have := HK2.out; have := HK3.out; omega⟩, by repeat (first | exact Drawn0.refl _ | apply Drawn0.step)⟩
            · rw [if_neg c3] at H
              have c3b0 : decide (x4_2 < (l0.length : Int)) = false := decide_eq_false c3
              clear c3
              have H' := Aside0.mk H
              clear H
              go_wp2
              repeat (go_quiet (fail); try go_wp2)
              go_roundg k2
              case measure => have := HK1.out; have := HK2.out; omega
              case rel => exact ⟨(wrap64 (x3_1 + 1)), (by first | rfl | (simp; done) | (simp [*]; done)), H', ⟨by have := HK1.out; have := HK2.out; omega⟩, by repeat (first | exact Drawn0.refl _ | apply Drawn0.step)⟩
      · rw [if_neg c2] at H
        have c2b0 : decide (x3_1 < (l0.length : Int)) = false := decide_eq_false c2
        clear c2
        obtain rfl := Option.some.inj H
        go_wp2
        repeat (go_quiet (fail); try go_wp2)
        go_ret
        exact ⟨by first | rfl | (simp; done) | (simp [*]; done), by repeat (first | exact Drawn0.refl _ | apply Drawn0.step)⟩
end Go.Proofs.Ytaaaljifclecnaa.PCk
