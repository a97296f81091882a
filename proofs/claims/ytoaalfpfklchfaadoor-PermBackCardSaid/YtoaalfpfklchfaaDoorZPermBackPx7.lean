-- Printed by wip/tools/mk.py of this repo (the kit's print with turns made in memory).
import Derived.Test.YtoaalfpfklchfaaDoorZPermBackPx0
import Derived.Test.YtoaalfpfklchfaaDoorZPermBackPx6
namespace Go.Proofs.YtoaalfpfklchfaaDoor.PPermBack
open Go.RowKit Go.Proofs.YtoaalfpfklchfaaDoorW.PrintWords Go.Proofs.YtoaalfpfklchfaaDoorW.PrintLast Go.Proofs.YtoaalfpfklchfaaDoorW.PrintMore
attribute [local go_sem] max2_int min2_int max_two min_two max_three min_three max_four min_four   -- for this text's walks alone
set_option linter.unusedVariables false
set_option linter.unusedSimpArgs false

/-! ### perm_number: function 78 -/
def perm_number.l0 : Nat → ByteArray → Int → Int → Option (Int × Int × Bool)
  | 0, _, _, _ => none
  | k + 1, x0, x1, x7 => if x7 < (x0.size : Int) then (if 0 ≤ x7 then (if (bt x0 x7) ≥ 48 then (if (bt x0 x7) ≤ 57 then (perm_number.l0 k x0 x1 (wrap64 (x7 + 1))) else (if x7 = x1 then (some (0, x1, false)) else (if (wrap64 (x7 - x1)) > 3 then (some (0, x1, false)) else (if 0 ≤ x1 then (if x1 < (x0.size : Int) then (if (bt x0 x1) = 48 then (if (wrap64 (x7 - x1)) > 1 then (some (0, x1, false)) else (if x1 ≤ x7 then (if x7 ≤ (x0.size : Int) then ((strconv_Atoi_93.f (x0.extract (x1 : Int).toNat (x7 : Int).toNat)).bind fun bt255 => (some (bt255.1, x7, true))) else (none)) else (none))) else (if x1 ≤ x7 then (if x7 ≤ (x0.size : Int) then ((strconv_Atoi_93.f (x0.extract (x1 : Int).toNat (x7 : Int).toNat)).bind fun bt257 => (some (bt257.1, x7, true))) else (none)) else (none))) else (none)) else (none))))) else (if x7 = x1 then (some (0, x1, false)) else (if (wrap64 (x7 - x1)) > 3 then (some (0, x1, false)) else (if 0 ≤ x1 then (if x1 < (x0.size : Int) then (if (bt x0 x1) = 48 then (if (wrap64 (x7 - x1)) > 1 then (some (0, x1, false)) else (if x1 ≤ x7 then (if x7 ≤ (x0.size : Int) then ((strconv_Atoi_93.f (x0.extract (x1 : Int).toNat (x7 : Int).toNat)).bind fun bt259 => (some (bt259.1, x7, true))) else (none)) else (none))) else (if x1 ≤ x7 then (if x7 ≤ (x0.size : Int) then ((strconv_Atoi_93.f (x0.extract (x1 : Int).toNat (x7 : Int).toNat)).bind fun bt261 => (some (bt261.1, x7, true))) else (none)) else (none))) else (none)) else (none))))) else (none)) else (if x7 = x1 then (some (0, x1, false)) else (if (wrap64 (x7 - x1)) > 3 then (some (0, x1, false)) else (if 0 ≤ x1 then (if x1 < (x0.size : Int) then (if (bt x0 x1) = 48 then (if (wrap64 (x7 - x1)) > 1 then (some (0, x1, false)) else (if x1 ≤ x7 then (if x7 ≤ (x0.size : Int) then ((strconv_Atoi_93.f (x0.extract (x1 : Int).toNat (x7 : Int).toNat)).bind fun bt263 => (some (bt263.1, x7, true))) else (none)) else (none))) else (if x1 ≤ x7 then (if x7 ≤ (x0.size : Int) then ((strconv_Atoi_93.f (x0.extract (x1 : Int).toNat (x7 : Int).toNat)).bind fun bt265 => (some (bt265.1, x7, true))) else (none)) else (none))) else (none)) else (none))))
def perm_number.f (k : Nat) (a0 : ByteArray) (a1 : Int) : Option (Int × Int × Bool) := perm_number.l0 k a0 a1 a1
theorem perm_number.mono_l : ∀ k, (∀ y0 y1 y2, LeO (perm_number.l0 k y0 y1 y2) (perm_number.l0 (k + 1) y0 y1 y2))
  | 0 => fun _ _ _ r h => by simp [perm_number.l0] at h
  | k + 1 => by
    have ih0 := perm_number.mono_l k
    · intro y0 y1 y2
      unfold perm_number.l0
      repeat' first
      | (with_reducible exact ih0 _ _ _)
      | (with_reducible exact LeO.refl _)
      | (with_reducible exact LeO.none _)
      | (with_reducible refine LeO.ite ?_ ?_)
      | (with_reducible refine LeO.bind ?_ (fun _ => ?_))
      | exact ih0 _ _ _
      | exact LeO.none _
      | refine LeO.ite ?_ ?_
      | refine LeO.bind ?_ (fun _ => ?_)
theorem perm_number.mono : ∀ a0 a1 k, LeO (perm_number.f k a0 a1) (perm_number.f (k + 1) a0 a1) := by
  intro a0 a1 k
  have ih0 := perm_number.mono_l k
  unfold perm_number.f
  repeat' first
      | (with_reducible exact ih0 _ _ _)
      | (with_reducible exact LeO.refl _)
      | (with_reducible exact LeO.none _)
      | (with_reducible refine LeO.ite ?_ ?_)
      | (with_reducible refine LeO.bind ?_ (fun _ => ?_))
      | exact ih0 _ _ _
      | exact LeO.none _
      | refine LeO.ite ?_ ?_
      | refine LeO.bind ?_ (fun _ => ?_)
set_option maxHeartbeats 8000000 in
set_option maxRecDepth 100000 in
theorem perm_number.calls (k : Nat) (a0 : ByteArray) (a1 : Int) (r1 : Int) (r2 : Int) (r3 : Bool) (w : World) (h : perm_number.f k a0 a1 = some (r1, r2, r3)) :
    Calls Tryd.prog 78 #[.string a0, .int .i64 a1] w fun e w' => e = .returned (.tuple #[.int .i64 r1, .int .i64 r2, .bool r3]) ∧ Below w.heap.size w w' := by
  have HB := Aside0.mk (Below.refl w.heap.size w)
  have H : (perm_number.l0 k a0 a1 a1) = some (r1, r2, r3) := h
  clear h
  have H' := Aside0.mk H
  clear H
  go_enter Tryd.func78, Tryd.ntmps78
  go_wp2
  go_loopg [7] k (fun kq v7 w' => ∃ (x7_1 : Int), v7 = .int .i64 x7_1 ∧ Aside0 (perm_number.l0 kq a0 a1 x7_1 = some (r1, r2, r3)) ∧ Aside0 (kq ≤ k) ∧ Aside0 (Below w.heap.size w w'))
  case atStart => exact ⟨(a1), (by first | rfl | (simp; done) | (simp [*]; done)), H', ⟨Nat.le_refl _⟩, ⟨by repeat (first | (with_reducible first | exact HB.out | apply below_alloc | apply pw_below_drewN | apply below_drew1) | exact HB.out)⟩⟩
  case round =>
    clear H'
    try clear p2
    obtain ⟨x7_1, rfl, HA, HK1, HB⟩ := hrel
    cases gk with
    | zero => exact absurd HA.out (by simp [perm_number.l0])
    | succ k1 =>
      have H := HA.out
      clear HA
      simp only [perm_number.l0] at H
      by_cases c3 : x7_1 < (a0.size : Int)
      · rw [if_pos c3] at H
        have c3b0 : decide (x7_1 < (a0.size : Int)) = true := decide_eq_true c3
        clear c3
        by_cases c4 : 0 ≤ x7_1
        · rw [if_pos c4] at H
          have c4b0 : decide (0 ≤ x7_1) = true := decide_eq_true c4
          clear c4
          by_cases c6 : (bt a0 x7_1) ≥ 48
          · rw [if_pos c6] at H
            have c6b0 : decide (48 ≤ (bt a0 x7_1)) = true := decide_eq_true c6
            clear c6
            by_cases c8 : (bt a0 x7_1) ≤ 57
            · rw [if_pos c8] at H
              have c8b0 : decide ((bt a0 x7_1) ≤ 57) = true := decide_eq_true c8
              clear c8
              have H' := Aside0.mk H
              clear H
              have p5 : 0 ≤ (x7_1 : Int) := of_decide_eq_true (by first | (with_reducible assumption) | assumption)
              have q5 : x7_1 < (a0.size : Int) := of_decide_eq_true (by first | (with_reducible assumption) | assumption)
              have hx5 := bt_at a0 x7_1
              replace p5 := eq_true p5
              replace q5 := eq_true q5
              have p7 : 0 ≤ (x7_1 : Int) := of_decide_eq_true (by first | (with_reducible assumption) | assumption)
              have q7 : x7_1 < (a0.size : Int) := of_decide_eq_true (by first | (with_reducible assumption) | assumption)
              have hx7 := bt_at a0 x7_1
              replace p7 := eq_true p7
              replace q7 := eq_true q7
              go_wp2
              go_roundg k1
              case measure => have := HK1.out; omega
              case rel => exact ⟨(wrap64 (x7_1 + 1)), (by first | rfl | (simp; done) | (simp [*]; done)), H', ⟨by have := HK1.out; omega⟩, ⟨by repeat (first | (with_reducible first | exact HB.out | apply below_alloc | apply pw_below_drewN | apply below_drew1) | exact HB.out)⟩⟩
            · rw [if_neg c8] at H
              have c8b0 : decide ((bt a0 x7_1) ≤ 57) = false := decide_eq_false c8
              clear c8
              by_cases c9 : x7_1 = a1
              · rw [if_pos c9] at H
                have c9b0 : (x7_1 == a1) = true := beq_iff_eq.mpr c9
                have c9b1 : (x7_1 != a1) = false := bne_eq_false_iff_eq.mpr c9
                clear c9
                simp only [Option.some.injEq, Prod.mk.injEq] at H
                obtain ⟨rfl, rfl, rfl⟩ := H
                have p5 : 0 ≤ (x7_1 : Int) := of_decide_eq_true (by first | (with_reducible assumption) | assumption)
                have q5 : x7_1 < (a0.size : Int) := of_decide_eq_true (by first | (with_reducible assumption) | assumption)
                have hx5 := bt_at a0 x7_1
                replace p5 := eq_true p5
                replace q5 := eq_true q5
                have p7 : 0 ≤ (x7_1 : Int) := of_decide_eq_true (by first | (with_reducible assumption) | assumption)
                have q7 : x7_1 < (a0.size : Int) := of_decide_eq_true (by first | (with_reducible assumption) | assumption)
                have hx7 := bt_at a0 x7_1
                replace p7 := eq_true p7
                replace q7 := eq_true q7
                go_wp2
                go_ret3
                exact ⟨by first | rfl | (simp [errW_none, errW_some] <;> rfl) | (simp [*, errW_none, errW_some] <;> rfl), by repeat (first | (with_reducible first | exact HB.out | apply below_alloc | apply pw_below_drewN | apply below_drew1) | exact HB.out)⟩
              · rw [if_neg c9] at H
                have c9b0 : (x7_1 == a1) = false := beq_eq_false_iff_ne.mpr c9
                have c9b1 : (x7_1 != a1) = true := bne_iff_ne.mpr c9
                by_cases c10 : (wrap64 (x7_1 - a1)) > 3
                · rw [if_pos c10] at H
                  have c10b0 : decide (3 < (wrap64 (x7_1 - a1))) = true := decide_eq_true c10
                  clear c10
                  simp only [Option.some.injEq, Prod.mk.injEq] at H
                  obtain ⟨rfl, rfl, rfl⟩ := H
                  have p5 : 0 ≤ (x7_1 : Int) := of_decide_eq_true (by first | (with_reducible assumption) | assumption)
                  have q5 : x7_1 < (a0.size : Int) := of_decide_eq_true (by first | (with_reducible assumption) | assumption)
                  have hx5 := bt_at a0 x7_1
                  replace p5 := eq_true p5
                  replace q5 := eq_true q5
                  have p7 : 0 ≤ (x7_1 : Int) := of_decide_eq_true (by first | (with_reducible assumption) | assumption)
                  have q7 : x7_1 < (a0.size : Int) := of_decide_eq_true (by first | (with_reducible assumption) | assumption)
                  have hx7 := bt_at a0 x7_1
                  replace p7 := eq_true p7
                  replace q7 := eq_true q7
                  go_wp2
                  go_ret3
                  exact ⟨by first | rfl | (simp [errW_none, errW_some] <;> rfl) | (simp [*, errW_none, errW_some] <;> rfl), by repeat (first | (with_reducible first | exact HB.out | apply below_alloc | apply pw_below_drewN | apply below_drew1) | exact HB.out)⟩
                · rw [if_neg c10] at H
                  have c10b0 : decide (3 < (wrap64 (x7_1 - a1))) = false := decide_eq_false c10
                  clear c10
                  by_cases c11 : 0 ≤ a1
                  · rw [if_pos c11] at H
                    have c11b0 : decide (0 ≤ a1) = true := decide_eq_true c11
                    clear c11
                    by_cases c12 : a1 < (a0.size : Int)
                    · rw [if_pos c12] at H
                      have c12b0 : decide (a1 < (a0.size : Int)) = true := decide_eq_true c12
                      clear c12
                      by_cases c14 : (bt a0 a1) = 48
                      · rw [if_pos c14] at H
                        have c14b0 : ((bt a0 a1) == 48) = true := beq_iff_eq.mpr c14
                        have c14b1 : ((bt a0 a1) != 48) = false := bne_eq_false_iff_eq.mpr c14
                        clear c14
                        by_cases c15 : (wrap64 (x7_1 - a1)) > 1
                        · rw [if_pos c15] at H
                          have c15b0 : decide (1 < (wrap64 (x7_1 - a1))) = true := decide_eq_true c15
                          clear c15
                          simp only [Option.some.injEq, Prod.mk.injEq] at H
                          obtain ⟨rfl, rfl, rfl⟩ := H
                          have p5 : 0 ≤ (x7_1 : Int) := of_decide_eq_true (by first | (with_reducible assumption) | assumption)
                          have q5 : x7_1 < (a0.size : Int) := of_decide_eq_true (by first | (with_reducible assumption) | assumption)
                          have hx5 := bt_at a0 x7_1
                          replace p5 := eq_true p5
                          replace q5 := eq_true q5
                          have p7 : 0 ≤ (x7_1 : Int) := of_decide_eq_true (by first | (with_reducible assumption) | assumption)
                          have q7 : x7_1 < (a0.size : Int) := of_decide_eq_true (by first | (with_reducible assumption) | assumption)
                          have hx7 := bt_at a0 x7_1
                          replace p7 := eq_true p7
                          replace q7 := eq_true q7
                          have p13 : 0 ≤ (a1 : Int) := of_decide_eq_true (by first | (with_reducible assumption) | assumption)
                          have q13 : a1 < (a0.size : Int) := of_decide_eq_true (by first | (with_reducible assumption) | assumption)
                          have hx13 := bt_at a0 a1
                          replace p13 := eq_true p13
                          replace q13 := eq_true q13
                          go_wp2
                          go_ret3
                          exact ⟨by first | rfl | (simp [errW_none, errW_some] <;> rfl) | (simp [*, errW_none, errW_some] <;> rfl), by repeat (first | (with_reducible first | exact HB.out | apply below_alloc | apply pw_below_drewN | apply below_drew1) | exact HB.out)⟩
                        · rw [if_neg c15] at H
                          have c15b0 : decide (1 < (wrap64 (x7_1 - a1))) = false := decide_eq_false c15
                          clear c15
                          have c16b0 := eq_true (of_decide_eq_true (by first | (with_reducible assumption) | assumption) : 0 ≤ a1)
                          by_cases c17 : a1 ≤ x7_1
                          · rw [if_pos c17] at H
                            have c17b0 := eq_true c17
                            have c17b1 : decide (a1 ≤ x7_1) = true := decide_eq_true c17
                            clear c17
                            by_cases c18 : x7_1 ≤ (a0.size : Int)
                            · rw [if_pos c18] at H
                              have c18b0 := eq_true c18
                              have c18b1 : decide (x7_1 ≤ (a0.size : Int)) = true := decide_eq_true c18
                              clear c18
                              replace H := Option.bind_eq_some_iff.mp H
                              obtain ⟨⟨t255, t256⟩, A190, H⟩ := H
                              replace H : (some (t255, x7_1, true)) = some (r1, r2, r3) := H
                              have A19 := Aside0.mk A190
                              clear A190
                              simp only [Option.some.injEq, Prod.mk.injEq] at H
                              obtain ⟨rfl, rfl, rfl⟩ := H
                              have p5 : 0 ≤ (x7_1 : Int) := of_decide_eq_true (by first | (with_reducible assumption) | assumption)
                              have q5 : x7_1 < (a0.size : Int) := of_decide_eq_true (by first | (with_reducible assumption) | assumption)
                              have hx5 := bt_at a0 x7_1
                              replace p5 := eq_true p5
                              replace q5 := eq_true q5
                              have p7 : 0 ≤ (x7_1 : Int) := of_decide_eq_true (by first | (with_reducible assumption) | assumption)
                              have q7 : x7_1 < (a0.size : Int) := of_decide_eq_true (by first | (with_reducible assumption) | assumption)
                              have hx7 := bt_at a0 x7_1
                              replace p7 := eq_true p7
                              replace q7 := eq_true q7
                              have p13 : 0 ≤ (a1 : Int) := of_decide_eq_true (by first | (with_reducible assumption) | assumption)
                              have q13 : a1 < (a0.size : Int) := of_decide_eq_true (by first | (with_reducible assumption) | assumption)
                              have hx13 := bt_at a0 a1
                              replace p13 := eq_true p13
                              replace q13 := eq_true q13
                              go_wp2_with (first | ((with_reducible refine gate_callee (f := 93) rfl ?_); refine goesL_ (some 56) rfl rfl Tryd.func93 (by kernel_rfl) rfl #[.string (a0.extract (a1 : Int).toNat (x7_1 : Int).toNat)] rfl (by (try simp only [List.map_toArray, List.map_cons, List.map_nil]); first | done | rfl | (simp only [List.length_drop, List.length_take]; rfl)) ?_; (with_reducible refine (strconv_Atoi_93.calls (a0.extract (a1 : Int).toNat (x7_1 : Int).toNat) t255 t256 _ A19.out).mono ?_); rintro e w20 ⟨rfl, hb⟩; refine ⟨_, rfl, ?_⟩; have n0_ := Aside0.mk (below_step (by repeat (first | (with_reducible first | exact HB.out | apply below_alloc | apply pw_below_drewN | apply below_drew1) | exact HB.out)) hb); clear HB; have HB := n0_; clear n0_; (try clear hb); (try clear hb2); (try clear hk); (try clear hi); (try simp only [errW_none, errW_some])))
                              go_ret3
                              exact ⟨by first | rfl | (simp [errW_none, errW_some] <;> rfl) | (simp [*, errW_none, errW_some] <;> rfl), by repeat (first | (with_reducible first | exact HB.out | apply below_alloc | apply pw_below_drewN | apply below_drew1) | exact HB.out)⟩
                            · rw [if_neg c18] at H
                              exact absurd H (by simp)
                          · rw [if_neg c17] at H
                            exact absurd H (by simp)
                      · rw [if_neg c14] at H
                        have c14b0 : ((bt a0 a1) == 48) = false := beq_eq_false_iff_ne.mpr c14
                        have c14b1 : ((bt a0 a1) != 48) = true := bne_iff_ne.mpr c14
                        have c21b0 := eq_true (of_decide_eq_true (by first | (with_reducible assumption) | assumption) : 0 ≤ a1)
                        by_cases c22 : a1 ≤ x7_1
                        · rw [if_pos c22] at H
                          have c22b0 := eq_true c22
                          have c22b1 : decide (a1 ≤ x7_1) = true := decide_eq_true c22
                          clear c22
                          by_cases c23 : x7_1 ≤ (a0.size : Int)
                          · rw [if_pos c23] at H
                            have c23b0 := eq_true c23
                            have c23b1 : decide (x7_1 ≤ (a0.size : Int)) = true := decide_eq_true c23
                            clear c23
                            replace H := Option.bind_eq_some_iff.mp H
                            obtain ⟨⟨t257, t258⟩, A240, H⟩ := H
                            replace H : (some (t257, x7_1, true)) = some (r1, r2, r3) := H
                            have A24 := Aside0.mk A240
                            clear A240
                            simp only [Option.some.injEq, Prod.mk.injEq] at H
                            obtain ⟨rfl, rfl, rfl⟩ := H
                            have p5 : 0 ≤ (x7_1 : Int) := of_decide_eq_true (by first | (with_reducible assumption) | assumption)
                            have q5 : x7_1 < (a0.size : Int) := of_decide_eq_true (by first | (with_reducible assumption) | assumption)
                            have hx5 := bt_at a0 x7_1
                            replace p5 := eq_true p5
                            replace q5 := eq_true q5
                            have p7 : 0 ≤ (x7_1 : Int) := of_decide_eq_true (by first | (with_reducible assumption) | assumption)
                            have q7 : x7_1 < (a0.size : Int) := of_decide_eq_true (by first | (with_reducible assumption) | assumption)
                            have hx7 := bt_at a0 x7_1
                            replace p7 := eq_true p7
                            replace q7 := eq_true q7
                            have p13 : 0 ≤ (a1 : Int) := of_decide_eq_true (by first | (with_reducible assumption) | assumption)
                            have q13 : a1 < (a0.size : Int) := of_decide_eq_true (by first | (with_reducible assumption) | assumption)
                            have hx13 := bt_at a0 a1
                            replace p13 := eq_true p13
                            replace q13 := eq_true q13
                            go_wp2_with (first | ((with_reducible refine gate_callee (f := 93) rfl ?_); refine goesL_ (some 56) rfl rfl Tryd.func93 (by kernel_rfl) rfl #[.string (a0.extract (a1 : Int).toNat (x7_1 : Int).toNat)] rfl (by (try simp only [List.map_toArray, List.map_cons, List.map_nil]); first | done | rfl | (simp only [List.length_drop, List.length_take]; rfl)) ?_; (with_reducible refine (strconv_Atoi_93.calls (a0.extract (a1 : Int).toNat (x7_1 : Int).toNat) t257 t258 _ A24.out).mono ?_); rintro e w25 ⟨rfl, hb⟩; refine ⟨_, rfl, ?_⟩; have n0_ := Aside0.mk (below_step (by repeat (first | (with_reducible first | exact HB.out | apply below_alloc | apply pw_below_drewN | apply below_drew1) | exact HB.out)) hb); clear HB; have HB := n0_; clear n0_; (try clear hb); (try clear hb2); (try clear hk); (try clear hi); (try simp only [errW_none, errW_some])))
                            go_ret3
                            exact ⟨by first | rfl | (simp [errW_none, errW_some] <;> rfl) | (simp [*, errW_none, errW_some] <;> rfl), by repeat (first | (with_reducible first | exact HB.out | apply below_alloc | apply pw_below_drewN | apply below_drew1) | exact HB.out)⟩
                          · rw [if_neg c23] at H
                            exact absurd H (by simp)
                        · rw [if_neg c22] at H
                          exact absurd H (by simp)
                    · rw [if_neg c12] at H
                      exact absurd H (by simp)
                  · rw [if_neg c11] at H
                    exact absurd H (by simp)
          · rw [if_neg c6] at H
            have c6b0 : decide (48 ≤ (bt a0 x7_1)) = false := decide_eq_false c6
            clear c6
            by_cases c26 : x7_1 = a1
            · rw [if_pos c26] at H
              have c26b0 : (x7_1 == a1) = true := beq_iff_eq.mpr c26
              have c26b1 : (x7_1 != a1) = false := bne_eq_false_iff_eq.mpr c26
              clear c26
              simp only [Option.some.injEq, Prod.mk.injEq] at H
              obtain ⟨rfl, rfl, rfl⟩ := H
              have p5 : 0 ≤ (x7_1 : Int) := of_decide_eq_true (by first | (with_reducible assumption) | assumption)
              have q5 : x7_1 < (a0.size : Int) := of_decide_eq_true (by first | (with_reducible assumption) | assumption)
              have hx5 := bt_at a0 x7_1
              replace p5 := eq_true p5
              replace q5 := eq_true q5
              go_wp2
              go_ret3
              exact ⟨by first | rfl | (simp [errW_none, errW_some] <;> rfl) | (simp [*, errW_none, errW_some] <;> rfl), by repeat (first | (with_reducible first | exact HB.out | apply below_alloc | apply pw_below_drewN | apply below_drew1) | exact HB.out)⟩
            · rw [if_neg c26] at H
              have c26b0 : (x7_1 == a1) = false := beq_eq_false_iff_ne.mpr c26
              have c26b1 : (x7_1 != a1) = true := bne_iff_ne.mpr c26
              by_cases c27 : (wrap64 (x7_1 - a1)) > 3
              · rw [if_pos c27] at H
                have c27b0 : decide (3 < (wrap64 (x7_1 - a1))) = true := decide_eq_true c27
                clear c27
                simp only [Option.some.injEq, Prod.mk.injEq] at H
                obtain ⟨rfl, rfl, rfl⟩ := H
                have p5 : 0 ≤ (x7_1 : Int) := of_decide_eq_true (by first | (with_reducible assumption) | assumption)
                have q5 : x7_1 < (a0.size : Int) := of_decide_eq_true (by first | (with_reducible assumption) | assumption)
                have hx5 := bt_at a0 x7_1
                replace p5 := eq_true p5
                replace q5 := eq_true q5
                go_wp2
                go_ret3
                exact ⟨by first | rfl | (simp [errW_none, errW_some] <;> rfl) | (simp [*, errW_none, errW_some] <;> rfl), by repeat (first | (with_reducible first | exact HB.out | apply below_alloc | apply pw_below_drewN | apply below_drew1) | exact HB.out)⟩
              · rw [if_neg c27] at H
                have c27b0 : decide (3 < (wrap64 (x7_1 - a1))) = false := decide_eq_false c27
                clear c27
                by_cases c28 : 0 ≤ a1
                · rw [if_pos c28] at H
                  have c28b0 : decide (0 ≤ a1) = true := decide_eq_true c28
                  clear c28
                  by_cases c29 : a1 < (a0.size : Int)
                  · rw [if_pos c29] at H
                    have c29b0 : decide (a1 < (a0.size : Int)) = true := decide_eq_true c29
                    clear c29
                    by_cases c31 : (bt a0 a1) = 48
                    · rw [if_pos c31] at H
                      have c31b0 : ((bt a0 a1) == 48) = true := beq_iff_eq.mpr c31
                      have c31b1 : ((bt a0 a1) != 48) = false := bne_eq_false_iff_eq.mpr c31
                      clear c31
                      by_cases c32 : (wrap64 (x7_1 - a1)) > 1
                      · rw [if_pos c32] at H
                        have c32b0 : decide (1 < (wrap64 (x7_1 - a1))) = true := decide_eq_true c32
                        clear c32
                        simp only [Option.some.injEq, Prod.mk.injEq] at H
                        obtain ⟨rfl, rfl, rfl⟩ := H
                        have p5 : 0 ≤ (x7_1 : Int) := of_decide_eq_true (by first | (with_reducible assumption) | assumption)
                        have q5 : x7_1 < (a0.size : Int) := of_decide_eq_true (by first | (with_reducible assumption) | assumption)
                        have hx5 := bt_at a0 x7_1
                        replace p5 := eq_true p5
                        replace q5 := eq_true q5
                        have p30 : 0 ≤ (a1 : Int) := of_decide_eq_true (by first | (with_reducible assumption) | assumption)
                        have q30 : a1 < (a0.size : Int) := of_decide_eq_true (by first | (with_reducible assumption) | assumption)
                        have hx30 := bt_at a0 a1
                        replace p30 := eq_true p30
                        replace q30 := eq_true q30
                        go_wp2
                        go_ret3
                        exact ⟨by first | rfl | (simp [errW_none, errW_some] <;> rfl) | (simp [*, errW_none, errW_some] <;> rfl), by repeat (first | (with_reducible first | exact HB.out | apply below_alloc | apply pw_below_drewN | apply below_drew1) | exact HB.out)⟩
                      · rw [if_neg c32] at H
                        have c32b0 : decide (1 < (wrap64 (x7_1 - a1))) = false := decide_eq_false c32
                        clear c32
                        have c33b0 := eq_true (of_decide_eq_true (by first | (with_reducible assumption) | assumption) : 0 ≤ a1)
                        by_cases c34 : a1 ≤ x7_1
                        · rw [if_pos c34] at H
                          have c34b0 := eq_true c34
                          have c34b1 : decide (a1 ≤ x7_1) = true := decide_eq_true c34
                          clear c34
                          by_cases c35 : x7_1 ≤ (a0.size : Int)
                          · rw [if_pos c35] at H
                            have c35b0 := eq_true c35
                            have c35b1 : decide (x7_1 ≤ (a0.size : Int)) = true := decide_eq_true c35
                            clear c35
                            replace H := Option.bind_eq_some_iff.mp H
                            obtain ⟨⟨t259, t260⟩, A360, H⟩ := H
                            replace H : (some (t259, x7_1, true)) = some (r1, r2, r3) := H
                            have A36 := Aside0.mk A360
                            clear A360
                            simp only [Option.some.injEq, Prod.mk.injEq] at H
                            obtain ⟨rfl, rfl, rfl⟩ := H
                            have p5 : 0 ≤ (x7_1 : Int) := of_decide_eq_true (by first | (with_reducible assumption) | assumption)
                            have q5 : x7_1 < (a0.size : Int) := of_decide_eq_true (by first | (with_reducible assumption) | assumption)
                            have hx5 := bt_at a0 x7_1
                            replace p5 := eq_true p5
                            replace q5 := eq_true q5
                            have p30 : 0 ≤ (a1 : Int) := of_decide_eq_true (by first | (with_reducible assumption) | assumption)
                            have q30 : a1 < (a0.size : Int) := of_decide_eq_true (by first | (with_reducible assumption) | assumption)
                            have hx30 := bt_at a0 a1
                            replace p30 := eq_true p30
                            replace q30 := eq_true q30
                            go_wp2_with (first | ((with_reducible refine gate_callee (f := 93) rfl ?_); refine goesL_ (some 56) rfl rfl Tryd.func93 (by kernel_rfl) rfl #[.string (a0.extract (a1 : Int).toNat (x7_1 : Int).toNat)] rfl (by (try simp only [List.map_toArray, List.map_cons, List.map_nil]); first | done | rfl | (simp only [List.length_drop, List.length_take]; rfl)) ?_; (with_reducible refine (strconv_Atoi_93.calls (a0.extract (a1 : Int).toNat (x7_1 : Int).toNat) t259 t260 _ A36.out).mono ?_); rintro e w37 ⟨rfl, hb⟩; refine ⟨_, rfl, ?_⟩; have n0_ := Aside0.mk (below_step (by repeat (first | (with_reducible first | exact HB.out | apply below_alloc | apply pw_below_drewN | apply below_drew1) | exact HB.out)) hb); clear HB; have HB := n0_; clear n0_; (try clear hb); (try clear hb2); (try clear hk); (try clear hi); (try simp only [errW_none, errW_some])))
                            go_ret3
                            exact ⟨by first | rfl | (simp [errW_none, errW_some] <;> rfl) | (simp [*, errW_none, errW_some] <;> rfl), by repeat (first | (with_reducible first | exact HB.out | apply below_alloc | apply pw_below_drewN | apply below_drew1) | exact HB.out)⟩
                          · rw [if_neg c35] at H
                            exact absurd H (by simp)
                        · rw [if_neg c34] at H
                          exact absurd H (by simp)
                    · rw [if_neg c31] at H
                      have c31b0 : ((bt a0 a1) == 48) = false := beq_eq_false_iff_ne.mpr c31
                      have c31b1 : ((bt a0 a1) != 48) = true := bne_iff_ne.mpr c31
                      have c38b0 := eq_true (of_decide_eq_true (by first | (with_reducible assumption) | assumption) : 0 ≤ a1)
                      by_cases c39 : a1 ≤ x7_1
                      · rw [if_pos c39] at H
                        have c39b0 := eq_true c39
                        have c39b1 : decide (a1 ≤ x7_1) = true := decide_eq_true c39
                        clear c39
                        by_cases c40 : x7_1 ≤ (a0.size : Int)
                        · rw [if_pos c40] at H
                          have c40b0 := eq_true c40
                          have c40b1 : decide (x7_1 ≤ (a0.size : Int)) = true := decide_eq_true c40
                          clear c40
                          replace H := Option.bind_eq_some_iff.mp H
                          obtain ⟨⟨t261, t262⟩, A410, H⟩ := H
                          replace H : (some (t261, x7_1, true)) = some (r1, r2, r3) := H
                          have A41 := Aside0.mk A410
                          clear A410
                          simp only [Option.some.injEq, Prod.mk.injEq] at H
                          obtain ⟨rfl, rfl, rfl⟩ := H
                          have p5 : 0 ≤ (x7_1 : Int) := of_decide_eq_true (by first | (with_reducible assumption) | assumption)
                          have q5 : x7_1 < (a0.size : Int) := of_decide_eq_true (by first | (with_reducible assumption) | assumption)
                          have hx5 := bt_at a0 x7_1
                          replace p5 := eq_true p5
                          replace q5 := eq_true q5
                          have p30 : 0 ≤ (a1 : Int) := of_decide_eq_true (by first | (with_reducible assumption) | assumption)
                          have q30 : a1 < (a0.size : Int) := of_decide_eq_true (by first | (with_reducible assumption) | assumption)
                          have hx30 := bt_at a0 a1
                          replace p30 := eq_true p30
                          replace q30 := eq_true q30
                          go_wp2_with (first | ((with_reducible refine gate_callee (f := 93) rfl ?_); refine goesL_ (some 56) rfl rfl Tryd.func93 (by kernel_rfl) rfl #[.string (a0.extract (a1 : Int).toNat (x7_1 : Int).toNat)] rfl (by (try simp only [List.map_toArray, List.map_cons, List.map_nil]); first | done | rfl | (simp only [List.length_drop, List.length_take]; rfl)) ?_; (with_reducible refine (strconv_Atoi_93.calls (a0.extract (a1 : Int).toNat (x7_1 : Int).toNat) t261 t262 _ A41.out).mono ?_); rintro e w42 ⟨rfl, hb⟩; refine ⟨_, rfl, ?_⟩; have n0_ := Aside0.mk (below_step (by repeat (first | (with_reducible first | exact HB.out | apply below_alloc | apply pw_below_drewN | apply below_drew1) | exact HB.out)) hb); clear HB; have HB := n0_; clear n0_; (try clear hb); (try clear hb2); (try clear hk); (try clear hi); (try simp only [errW_none, errW_some])))
                          go_ret3
                          exact ⟨by first | rfl | (simp [errW_none, errW_some] <;> rfl) | (simp [*, errW_none, errW_some] <;> rfl), by repeat (first | (with_reducible first | exact HB.out | apply below_alloc | apply pw_below_drewN | apply below_drew1) | exact HB.out)⟩
                        · rw [if_neg c40] at H
                          exact absurd H (by simp)
                      · rw [if_neg c39] at H
                        exact absurd H (by simp)
                  · rw [if_neg c29] at H
                    exact absurd H (by simp)
                · rw [if_neg c28] at H
                  exact absurd H (by simp)
        · rw [if_neg c4] at H
          exact absurd H (by simp)
      · rw [if_neg c3] at H
        have c3b0 : decide (x7_1 < (a0.size : Int)) = false := decide_eq_false c3
        clear c3
        by_cases c43 : x7_1 = a1
        · rw [if_pos c43] at H
          have c43b0 : (x7_1 == a1) = true := beq_iff_eq.mpr c43
          have c43b1 : (x7_1 != a1) = false := bne_eq_false_iff_eq.mpr c43
          clear c43
          simp only [Option.some.injEq, Prod.mk.injEq] at H
          obtain ⟨rfl, rfl, rfl⟩ := H
          go_wp2
          go_ret3
          exact ⟨by first | rfl | (simp [errW_none, errW_some] <;> rfl) | (simp [*, errW_none, errW_some] <;> rfl), by repeat (first | (with_reducible first | exact HB.out | apply below_alloc | apply pw_below_drewN | apply below_drew1) | exact HB.out)⟩
        · rw [if_neg c43] at H
          have c43b0 : (x7_1 == a1) = false := beq_eq_false_iff_ne.mpr c43
          have c43b1 : (x7_1 != a1) = true := bne_iff_ne.mpr c43
          by_cases c44 : (wrap64 (x7_1 - a1)) > 3
          · rw [if_pos c44] at H
            have c44b0 : decide (3 < (wrap64 (x7_1 - a1))) = true := decide_eq_true c44
            clear c44
            simp only [Option.some.injEq, Prod.mk.injEq] at H
            obtain ⟨rfl, rfl, rfl⟩ := H
            go_wp2
            go_ret3
            exact ⟨by first | rfl | (simp [errW_none, errW_some] <;> rfl) | (simp [*, errW_none, errW_some] <;> rfl), by repeat (first | (with_reducible first | exact HB.out | apply below_alloc | apply pw_below_drewN | apply below_drew1) | exact HB.out)⟩
          · rw [if_neg c44] at H
            have c44b0 : decide (3 < (wrap64 (x7_1 - a1))) = false := decide_eq_false c44
            clear c44
            by_cases c45 : 0 ≤ a1
            · rw [if_pos c45] at H
              have c45b0 : decide (0 ≤ a1) = true := decide_eq_true c45
              clear c45
              by_cases c46 : a1 < (a0.size : Int)
              · rw [if_pos c46] at H
                have c46b0 : decide (a1 < (a0.size : Int)) = true := decide_eq_true c46
                clear c46
                by_cases c48 : (bt a0 a1) = 48
                · rw [if_pos c48] at H
                  have c48b0 : ((bt a0 a1) == 48) = true := beq_iff_eq.mpr c48
                  have c48b1 : ((bt a0 a1) != 48) = false := bne_eq_false_iff_eq.mpr c48
                  clear c48
                  by_cases c49 : (wrap64 (x7_1 - a1)) > 1
                  · rw [if_pos c49] at H
                    have c49b0 : decide (1 < (wrap64 (x7_1 - a1))) = true := decide_eq_true c49
                    clear c49
                    simp only [Option.some.injEq, Prod.mk.injEq] at H
                    obtain ⟨rfl, rfl, rfl⟩ := H
                    have p47 : 0 ≤ (a1 : Int) := of_decide_eq_true (by first | (with_reducible assumption) | assumption)
                    have q47 : a1 < (a0.size : Int) := of_decide_eq_true (by first | (with_reducible assumption) | assumption)
                    have hx47 := bt_at a0 a1
                    replace p47 := eq_true p47
                    replace q47 := eq_true q47
                    go_wp2
                    go_ret3
                    exact ⟨by first | rfl | (simp [errW_none, errW_some] <;> rfl) | (simp [*, errW_none, errW_some] <;> rfl), by repeat (first | (with_reducible first | exact HB.out | apply below_alloc | apply pw_below_drewN | apply below_drew1) | exact HB.out)⟩
                  · rw [if_neg c49] at H
                    have c49b0 : decide (1 < (wrap64 (x7_1 - a1))) = false := decide_eq_false c49
                    clear c49
                    have c50b0 := eq_true (of_decide_eq_true (by first | (with_reducible assumption) | assumption) : 0 ≤ a1)
                    by_cases c51 : a1 ≤ x7_1
                    · rw [if_pos c51] at H
                      have c51b0 := eq_true c51
                      have c51b1 : decide (a1 ≤ x7_1) = true := decide_eq_true c51
                      clear c51
                      by_cases c52 : x7_1 ≤ (a0.size : Int)
                      · rw [if_pos c52] at H
                        have c52b0 := eq_true c52
                        have c52b1 : decide (x7_1 ≤ (a0.size : Int)) = true := decide_eq_true c52
                        clear c52
                        replace H := Option.bind_eq_some_iff.mp H
                        obtain ⟨⟨t263, t264⟩, A530, H⟩ := H
                        replace H : (some (t263, x7_1, true)) = some (r1, r2, r3) := H
                        have A53 := Aside0.mk A530
                        clear A530
                        simp only [Option.some.injEq, Prod.mk.injEq] at H
                        obtain ⟨rfl, rfl, rfl⟩ := H
                        have p47 : 0 ≤ (a1 : Int) := of_decide_eq_true (by first | (with_reducible assumption) | assumption)
                        have q47 : a1 < (a0.size : Int) := of_decide_eq_true (by first | (with_reducible assumption) | assumption)
                        have hx47 := bt_at a0 a1
                        replace p47 := eq_true p47
                        replace q47 := eq_true q47
                        go_wp2_with (first | ((with_reducible refine gate_callee (f := 93) rfl ?_); refine goesL_ (some 56) rfl rfl Tryd.func93 (by kernel_rfl) rfl #[.string (a0.extract (a1 : Int).toNat (x7_1 : Int).toNat)] rfl (by (try simp only [List.map_toArray, List.map_cons, List.map_nil]); first | done | rfl | (simp only [List.length_drop, List.length_take]; rfl)) ?_; (with_reducible refine (strconv_Atoi_93.calls (a0.extract (a1 : Int).toNat (x7_1 : Int).toNat) t263 t264 _ A53.out).mono ?_); rintro e w54 ⟨rfl, hb⟩; refine ⟨_, rfl, ?_⟩; have n0_ := Aside0.mk (below_step (by repeat (first | (with_reducible first | exact HB.out | apply below_alloc | apply pw_below_drewN | apply below_drew1) | exact HB.out)) hb); clear HB; have HB := n0_; clear n0_; (try clear hb); (try clear hb2); (try clear hk); (try clear hi); (try simp only [errW_none, errW_some])))
                        go_ret3
                        exact ⟨by first | rfl | (simp [errW_none, errW_some] <;> rfl) | (simp [*, errW_none, errW_some] <;> rfl), by repeat (first | (with_reducible first | exact HB.out | apply below_alloc | apply pw_below_drewN | apply below_drew1) | exact HB.out)⟩
                      · rw [if_neg c52] at H
                        exact absurd H (by simp)
                    · rw [if_neg c51] at H
                      exact absurd H (by simp)
                · rw [if_neg c48] at H
                  have c48b0 : ((bt a0 a1) == 48) = false := beq_eq_false_iff_ne.mpr c48
                  have c48b1 : ((bt a0 a1) != 48) = true := bne_iff_ne.mpr c48
                  have c55b0 := eq_true (of_decide_eq_true (by first | (with_reducible assumption) | assumption) : 0 ≤ a1)
                  by_cases c56 : a1 ≤ x7_1
                  · rw [if_pos c56] at H
                    have c56b0 := eq_true c56
                    have c56b1 : decide (a1 ≤ x7_1) = true := decide_eq_true c56
                    clear c56
                    by_cases c57 : x7_1 ≤ (a0.size : Int)
                    · rw [if_pos c57] at H
                      have c57b0 := eq_true c57
                      have c57b1 : decide (x7_1 ≤ (a0.size : Int)) = true := decide_eq_true c57
                      clear c57
                      replace H := Option.bind_eq_some_iff.mp H
                      obtain ⟨⟨t265, t266⟩, A580, H⟩ := H
                      replace H : (some (t265, x7_1, true)) = some (r1, r2, r3) := H
                      have A58 := Aside0.mk A580
                      clear A580
                      simp only [Option.some.injEq, Prod.mk.injEq] at H
                      obtain ⟨rfl, rfl, rfl⟩ := H
                      have p47 : 0 ≤ (a1 : Int) := of_decide_eq_true (by first | (with_reducible assumption) | assumption)
                      have q47 : a1 < (a0.size : Int) := of_decide_eq_true (by first | (with_reducible assumption) | assumption)
                      have hx47 := bt_at a0 a1
                      replace p47 := eq_true p47
                      replace q47 := eq_true q47
                      go_wp2_with (first | ((with_reducible refine gate_callee (f := 93) rfl ?_); refine goesL_ (some 56) rfl rfl Tryd.func93 (by kernel_rfl) rfl #[.string (a0.extract (a1 : Int).toNat (x7_1 : Int).toNat)] rfl (by (try simp only [List.map_toArray, List.map_cons, List.map_nil]); first | done | rfl | (simp only [List.length_drop, List.length_take]; rfl)) ?_; (with_reducible refine (strconv_Atoi_93.calls (a0.extract (a1 : Int).toNat (x7_1 : Int).toNat) t265 t266 _ A58.out).mono ?_); rintro e w59 ⟨rfl, hb⟩; refine ⟨_, rfl, ?_⟩; have n0_ := Aside0.mk (below_step (by repeat (first | (with_reducible first | exact HB.out | apply below_alloc | apply pw_below_drewN | apply below_drew1) | exact HB.out)) hb); clear HB; have HB := n0_; clear n0_; (try clear hb); (try clear hb2); (try clear hk); (try clear hi); (try simp only [errW_none, errW_some])))
                      go_ret3
                      exact ⟨by first | rfl | (simp [errW_none, errW_some] <;> rfl) | (simp [*, errW_none, errW_some] <;> rfl), by repeat (first | (with_reducible first | exact HB.out | apply below_alloc | apply pw_below_drewN | apply below_drew1) | exact HB.out)⟩
                    · rw [if_neg c57] at H
                      exact absurd H (by simp)
                  · rw [if_neg c56] at H
                    exact absurd H (by simp)
              · rw [if_neg c46] at H
                exact absurd H (by simp)
            · rw [if_neg c45] at H
              exact absurd H (by simp)

/-! ### perm_lists: function 68 -/
mutual
def perm_lists.l0 : Nat → ByteArray → List (List Int) → Int → Option ((List (List Int)) × Bool)
  | 0, _, _, _ => none
  | k + 1, x0, x4, x5 => if x5 < (x0.size : Int) then (if 0 ≤ x5 then (if (bt x0 x5) = 40 then (perm_lists.l1 k x0 x4 x5 ([] : List Int)) else (some (([] : List (List Int)), false))) else (none)) else (some (x4, decide ((x4.length : Int) > 0)))
def perm_lists.l1 : Nat → ByteArray → List (List Int) → Int → List Int → Option ((List (List Int)) × Bool)
  | 0, _, _, _, _ => none
  | k + 1, x0, x4, x5, x6 => (perm_number.f k x0 (wrap64 (x5 + 1))).bind fun bt267 => (if bt267.2.2 = true then (perm_lists.j2 k x0 x4 x6 bt267.1 bt267.2.1 (bt267.2.1 == (x0.size : Int))) else (perm_lists.j2 k x0 x4 x6 bt267.1 bt267.2.1 true))
def perm_lists.j2 : Nat → ByteArray → List (List Int) → List Int → Int → Int → Bool → Option ((List (List Int)) × Bool)
  | 0, _, _, _, _, _, _ => none
  | k + 1, x0, x4, x6, x7, x8, x35 => if x35 = true then (some (([] : List (List Int)), false)) else (if x6.length < 17592186044416 then ((some (x6 ++ [x7] : List Int)).bind fun y270 => (if 0 ≤ x8 then (if x8 < (x0.size : Int) then (if (bt x0 x8) = 41 then (if x4.length < 5864062014805 then (perm_lists.l0 k x0 (x4 ++ [y270]) (wrap64 (x8 + 1))) else (none)) else (if (bt x0 x8) = 32 then (perm_lists.l1 k x0 x4 x8 y270) else (some (([] : List (List Int)), false)))) else (none)) else (none))) else (none))
end
def perm_lists.f (k : Nat) (a0 : ByteArray) : Option ((List (List Int)) × Bool) := if a0.toList = ([40, 41] : List UInt8) then (some (([] : List (List Int)), true)) else (perm_lists.l0 k a0 ([] : List (List Int)) 0)
theorem perm_lists.mono_l : ∀ k, (∀ y0 y1 y2, LeO (perm_lists.l0 k y0 y1 y2) (perm_lists.l0 (k + 1) y0 y1 y2)) ∧ (∀ y0 y1 y2 y3, LeO (perm_lists.l1 k y0 y1 y2 y3) (perm_lists.l1 (k + 1) y0 y1 y2 y3)) ∧ (∀ y0 y1 y2 y3 y4 y5, LeO (perm_lists.j2 k y0 y1 y2 y3 y4 y5) (perm_lists.j2 (k + 1) y0 y1 y2 y3 y4 y5))
  | 0 => ⟨fun _ _ _ r h => by simp [perm_lists.l0] at h, fun _ _ _ _ r h => by simp [perm_lists.l1] at h, fun _ _ _ _ _ _ r h => by simp [perm_lists.j2] at h⟩
  | k + 1 => by
    obtain ⟨ih0, ih1, ih2⟩ := perm_lists.mono_l k
    refine ⟨?_, ?_, ?_⟩
    · intro y0 y1 y2
      unfold perm_lists.l0
      repeat' first
      | (with_reducible exact ih0 _ _ _)
      | (with_reducible exact ih1 _ _ _ _)
      | (with_reducible exact ih2 _ _ _ _ _ _)
      | (with_reducible exact perm_number.mono _ _ _)
      | (with_reducible exact LeO.refl _)
      | (with_reducible exact LeO.none _)
      | (with_reducible refine LeO.ite ?_ ?_)
      | (with_reducible refine LeO.bind ?_ (fun _ => ?_))
      | exact ih0 _ _ _
      | exact ih1 _ _ _ _
      | exact ih2 _ _ _ _ _ _
      | exact perm_number.mono _ _ _
      | exact LeO.none _
      | refine LeO.ite ?_ ?_
      | refine LeO.bind ?_ (fun _ => ?_)
    · intro y0 y1 y2 y3
      unfold perm_lists.l1
      repeat' first
      | (with_reducible exact ih0 _ _ _)
      | (with_reducible exact ih1 _ _ _ _)
      | (with_reducible exact ih2 _ _ _ _ _ _)
      | (with_reducible exact perm_number.mono _ _ _)
      | (with_reducible exact LeO.refl _)
      | (with_reducible exact LeO.none _)
      | (with_reducible refine LeO.ite ?_ ?_)
      | (with_reducible refine LeO.bind ?_ (fun _ => ?_))
      | exact ih0 _ _ _
      | exact ih1 _ _ _ _
      | exact ih2 _ _ _ _ _ _
      | exact perm_number.mono _ _ _
      | exact LeO.none _
      | refine LeO.ite ?_ ?_
      | refine LeO.bind ?_ (fun _ => ?_)
    · intro y0 y1 y2 y3 y4 y5
      unfold perm_lists.j2
      repeat' first
      | (with_reducible exact ih0 _ _ _)
      | (with_reducible exact ih1 _ _ _ _)
      | (with_reducible exact ih2 _ _ _ _ _ _)
      | (with_reducible exact perm_number.mono _ _ _)
      | (with_reducible exact LeO.refl _)
      | (with_reducible exact LeO.none _)
      | (with_reducible refine LeO.ite ?_ ?_)
      | (with_reducible refine LeO.bind ?_ (fun _ => ?_))
      | exact ih0 _ _ _
      | exact ih1 _ _ _ _
      | exact ih2 _ _ _ _ _ _
      | exact perm_number.mono _ _ _
      | exact LeO.none _
      | refine LeO.ite ?_ ?_
      | refine LeO.bind ?_ (fun _ => ?_)
theorem perm_lists.mono : ∀ a0 k, LeO (perm_lists.f k a0) (perm_lists.f (k + 1) a0) := by
  intro a0 k
  obtain ⟨ih0, ih1, ih2⟩ := perm_lists.mono_l k
  unfold perm_lists.f
  repeat' first
      | (with_reducible exact ih0 _ _ _)
      | (with_reducible exact ih1 _ _ _ _)
      | (with_reducible exact ih2 _ _ _ _ _ _)
      | (with_reducible exact perm_number.mono _ _ _)
      | (with_reducible exact LeO.refl _)
      | (with_reducible exact LeO.none _)
      | (with_reducible refine LeO.ite ?_ ?_)
      | (with_reducible refine LeO.bind ?_ (fun _ => ?_))
      | exact ih0 _ _ _
      | exact ih1 _ _ _ _
      | exact ih2 _ _ _ _ _ _
      | exact perm_number.mono _ _ _
      | exact LeO.none _
      | refine LeO.ite ?_ ?_
      | refine LeO.bind ?_ (fun _ => ?_)
set_option maxHeartbeats 8000000 in
set_option maxRecDepth 100000 in
theorem perm_lists.calls (k : Nat) (a0 : ByteArray) (r1 : List (List Int)) (r2 : Bool) (w : World) (h : perm_lists.f k a0 = some (r1, r2)) :
    Calls Tryd.prog 68 #[.string a0] w fun e w' => ∃ v0_ : Value, e = .returned (.tuple #[v0_, .bool r2]) ∧ Kd.S (Kd.slice 3 (Kd.int .i64)) 22 w' w.heap.size (fun _ => True) v0_ r1 ∧ Below w.heap.size w w' := by
  have HB := Aside0.mk (Below.refl w.heap.size w)
  have H : (if a0.toList = ([40, 41] : List UInt8) then (some (([] : List (List Int)), true)) else (perm_lists.l0 k a0 ([] : List (List Int)) 0)) = some (r1, r2) := h
  clear h
  by_cases c2 : a0.toList = ([40, 41] : List UInt8)
  · rw [if_pos c2] at H
    have c2b0 : (a0.toList == ([40, 41] : List UInt8)) = true := beq_iff_eq.mpr c2
    have c2b1 : (a0.toList != ([40, 41] : List UInt8)) = false := bne_eq_false_iff_eq.mpr c2
    clear c2
    simp only [Option.some.injEq, Prod.mk.injEq] at H
    obtain ⟨rfl, rfl⟩ := H
    go_enter Tryd.func68, Tryd.ntmps68
    go_wp2
    go_ret2
    exact ⟨_, by first | rfl | (simp [errW_none, errW_some] <;> rfl) | (simp [*, errW_none, errW_some] <;> rfl), by first | exact Kd.S_nil _ _ _ _ _ | exact Kd.N_nil _ _ _ _ _ | exact Kd.V_nil _ _ _ _ _ | exact Kd.Q_nil _ _ _ _ _ | exact Kd.R_nil _ _ _ _ _, by repeat (first | (with_reducible first | exact HB.out | apply below_alloc | apply pw_below_drewN | apply below_drew1) | exact HB.out)⟩
  · rw [if_neg c2] at H
    have c2b0 : (a0.toList == ([40, 41] : List UInt8)) = false := beq_eq_false_iff_ne.mpr c2
    have c2b1 : (a0.toList != ([40, 41] : List UInt8)) = true := bne_iff_ne.mpr c2
    have H' := Aside0.mk H
    clear H
    go_enter Tryd.func68, Tryd.ntmps68
    go_wp2
    go_loopg [4, 5] k (fun kq v4 v5 w' => ∃ (x4_1 : List (List Int)) (x5_1 : Int), v5 = .int .i64 x5_1 ∧ Aside0 (perm_lists.l0 kq a0 x4_1 x5_1 = some (r1, r2)) ∧ Aside0 (kq ≤ k) ∧ Aside0 (Kd.S (Kd.slice 3 (Kd.int .i64)) 22 w' w.heap.size (fun _ => True) v4 x4_1) ∧ Aside0 (Below w.heap.size w w'))
    case atStart => exact ⟨(([] : List (List Int))), (0), (by first | rfl | (simp; done) | (simp [*]; done)), H', ⟨Nat.le_refl _⟩, ⟨by first | exact Kd.S_nil _ _ _ _ _ | exact Kd.N_nil _ _ _ _ _ | exact Kd.V_nil _ _ _ _ _ | exact Kd.Q_nil _ _ _ _ _ | exact Kd.R_nil _ _ _ _ _⟩, ⟨by repeat (first | (with_reducible first | exact HB.out | apply below_alloc | apply pw_below_drewN | apply below_drew1) | exact HB.out)⟩⟩
    case round =>
      clear H'
      try clear c2
      try clear c2b0
      try clear c2b1
      try clear p2
      obtain ⟨x4_1, x5_1, rfl, HA, HK1, HO_4, HB⟩ := hrel
      cases gk with
      | zero => exact absurd HA.out (by simp [perm_lists.l0])
      | succ k1 =>
        have H := HA.out
        clear HA
        simp only [perm_lists.l0] at H
        by_cases c3 : x5_1 < (a0.size : Int)
        · rw [if_pos c3] at H
          have c3b0 : decide (x5_1 < (a0.size : Int)) = true := decide_eq_true c3
          clear c3
          by_cases c4 : 0 ≤ x5_1
          · rw [if_pos c4] at H
            have c4b0 : decide (0 ≤ x5_1) = true := decide_eq_true c4
            clear c4
            by_cases c6 : (bt a0 x5_1) = 40
            · rw [if_pos c6] at H
              have c6b0 : ((bt a0 x5_1) == 40) = true := beq_iff_eq.mpr c6
              have c6b1 : ((bt a0 x5_1) != 40) = false := bne_eq_false_iff_eq.mpr c6
              clear c6
              have H' := Aside0.mk H
              clear H
              have p5 : 0 ≤ (x5_1 : Int) := of_decide_eq_true (by first | (with_reducible assumption) | assumption)
              have q5 : x5_1 < (a0.size : Int) := of_decide_eq_true (by first | (with_reducible assumption) | assumption)
              have hx5 := bt_at a0 x5_1
              replace p5 := eq_true p5
              replace q5 := eq_true q5
              go_wp2
              go_loopg [5, 6] k1 (fun kq v5 v6 w' => ∃ (x5_2 : Int) (x6_2 : List Int), v5 = .int .i64 x5_2 ∧ Aside0 (perm_lists.l1 kq a0 x4_1 x5_2 x6_2 = some (r1, r2)) ∧ Aside0 (kq ≤ k1) ∧ Aside0 (Kd.S (Kd.slice 3 (Kd.int .i64)) 22 w' w.heap.size (fun k_ => some k_ ≠ (v6 : Value).ownBlock) u4 x4_1) ∧ Aside0 (Kd.R (Kd.int .i64) 3 w' w.heap.size (fun _ => True) v6 x6_2) ∧ Aside0 (Below w.heap.size w w'))
              case atStart => exact ⟨(x5_1), (([] : List Int)), (by first | rfl | (simp; done) | (simp [*]; done)), H', ⟨Nat.le_refl _⟩, ⟨by (with_reducible repeat (first | apply Kd.S_alloc | apply Kd.S_drewN | apply Kd.S_drew)); exact Kd.S_mono HO_4.out (fun _ hk => (by simp [Value.ownBlock]))⟩, ⟨by first | exact Kd.R_nil _ _ _ _ _ | exact Kd.N_nil _ _ _ _ _ | exact Kd.V_nil _ _ _ _ _ | exact Kd.Q_nil _ _ _ _ _ | exact Kd.S_nil _ _ _ _ _⟩, ⟨by repeat (first | (with_reducible first | exact HB.out | apply below_alloc | apply pw_below_drewN | apply below_drew1) | exact HB.out)⟩⟩
              case round =>
                clear H'
                try clear c2
                try clear c2b0
                try clear c2b1
                try clear p2
                try clear c3
                try clear c3b0
                try clear c4
                try clear c4b0
                try clear p5
                try clear q5
                try clear hx5
                try clear c6
                try clear c6b0
                try clear c6b1
                try clear p2
                try clear p5
                try clear q5
                obtain ⟨x5_2, x6_2, rfl, HA, HK2, HO_4, HO_6, HB⟩ := hrel
                cases gk with
                | zero => exact absurd HA.out (by simp [perm_lists.l1])
                | succ k2 =>
                  have H := HA.out
                  clear HA
                  simp only [perm_lists.l1] at H
                  replace H := Option.bind_eq_some_iff.mp H
                  obtain ⟨⟨t267, t268, t269⟩, A70, H⟩ := H
                  replace H : (if t269 = true then (perm_lists.j2 k2 a0 x4_1 x6_2 t267 t268 (t268 == (a0.size : Int))) else (perm_lists.j2 k2 a0 x4_1 x6_2 t267 t268 true)) = some (r1, r2) := H
                  have A7 := Aside0.mk A70
                  clear A70
                  have HC8 := Aside0.mk H
                  clear H
                  go_upto_region 10 with (first | ((with_reducible refine gate_callee (f := 78) rfl ?_); refine goesL_ (some 24) rfl rfl Tryd.func78 (by kernel_rfl) rfl #[.string a0, .int .i64 (wrap64 (x5_2 + 1))] rfl (by (try simp only [List.map_toArray, List.map_cons, List.map_nil]); first | done | rfl | (simp only [List.length_drop, List.length_take]; rfl)) ?_; (with_reducible refine (perm_number.calls k2 a0 (wrap64 (x5_2 + 1)) t267 t268 t269 _ A7.out).mono ?_); rintro e w9 ⟨rfl, hb⟩; refine ⟨_, rfl, ?_⟩; have n0_ := Aside0.mk (Kd.S_below (by (with_reducible repeat (first | apply Kd.S_alloc | apply Kd.S_drewN | apply Kd.S_drew)); exact HO_4.out) hb); have n1_ := Aside0.mk (Kd.R_below (by (with_reducible repeat (first | apply Kd.R_alloc | apply Kd.R_drewN | apply Kd.R_drew)); exact HO_6.out) hb); have n2_ := Aside0.mk (below_step (by repeat (first | (with_reducible first | exact HB.out | apply below_alloc | apply pw_below_drewN | apply below_drew1) | exact HB.out)) hb); clear HO_4; clear HO_6; clear HB; have HO_4 := n0_; have HO_6 := n1_; have HB := n2_; clear n0_ n1_ n2_; (try clear hb); (try clear hb2); (try clear hk); (try clear hi)))
                  (try simp only [Act.put, List.setIfInBounds_toArray, List.set_cons_zero, List.set_cons_succ])
                  go_cut [35] (fun v35 wc => ∃ (kq : Nat) (x35_7 : Bool), v35 = .bool x35_7 ∧ Aside0 (perm_lists.j2 kq a0 x4_1 x6_2 t267 t268 x35_7 = some (r1, r2)) ∧ Aside0 (kq ≤ k2) ∧ Aside0 (Kd.S (Kd.slice 3 (Kd.int .i64)) 22 wc w.heap.size (fun k_ => some k_ ≠ (u6 : Value).ownBlock) u4 x4_1) ∧ Aside0 (Kd.R (Kd.int .i64) 3 wc w.heap.size (fun _ => True) u6 x6_2) ∧ Aside0 (Below w.heap.size w wc))
                  case first =>
                    have H := HC8.out
                    clear HC8
                    by_cases c10 : t269 = true
                    · subst c10
                      have H1 : (perm_lists.j2 k2 a0 x4_1 x6_2 t267 t268 (t268 == (a0.size : Int))) = some (r1, r2) := by rw [if_pos rfl] at H; exact H
                      clear H
                      have H := H1
                      clear H1
                      have H' := Aside0.mk H
                      clear H
                      go_wp2
                      go_meet
                      case rel => exact ⟨_, ((t268 == (a0.size : Int))), (by first | rfl | (simp; done) | (simp [*]; done)), H', ⟨by have := HK1.out; have := HK2.out; first | omega | exact Nat.le_refl _⟩, ⟨by (with_reducible repeat (first | apply Kd.S_alloc | apply Kd.S_drewN | apply Kd.S_drew)); exact HO_4.out⟩, ⟨by (with_reducible repeat (first | apply Kd.R_alloc | apply Kd.R_drewN | apply Kd.R_drew)); exact HO_6.out⟩, ⟨by repeat (first | (with_reducible first | exact HB.out | apply below_alloc | apply pw_below_drewN | apply below_drew1) | exact HB.out)⟩⟩
                    · replace c10 := Bool.eq_false_iff.mpr c10
                      subst c10
                      have H1 : (perm_lists.j2 k2 a0 x4_1 x6_2 t267 t268 true) = some (r1, r2) := by rw [if_neg (show ¬ (false = true) by decide)] at H; exact H
                      clear H
                      have H := H1
                      clear H1
                      have H' := Aside0.mk H
                      clear H
                      go_wp2
                      go_meet
                      case rel => exact ⟨_, (true), (by first | rfl | (simp; done) | (simp [*]; done)), H', ⟨by have := HK1.out; have := HK2.out; first | omega | exact Nat.le_refl _⟩, ⟨by (with_reducible repeat (first | apply Kd.S_alloc | apply Kd.S_drewN | apply Kd.S_drew)); exact HO_4.out⟩, ⟨by (with_reducible repeat (first | apply Kd.R_alloc | apply Kd.R_drewN | apply Kd.R_drew)); exact HO_6.out⟩, ⟨by repeat (first | (with_reducible first | exact HB.out | apply below_alloc | apply pw_below_drewN | apply below_drew1) | exact HB.out)⟩⟩
                  case rest =>
                    clear HC8
                    try clear c1
                    try clear c2
                    try clear c2b0
                    try clear c2b1
                    try clear p2
                    try clear c3
                    try clear c3b0
                    try clear c4
                    try clear c4b0
                    try clear p5
                    try clear q5
                    try clear hx5
                    try clear c6
                    try clear c6b0
                    try clear c6b1
                    try clear p6
                    try clear c7
                    try clear c10
                    try clear p2
                    try clear p5
                    try clear q5
                    obtain ⟨kq, x35_7, rfl, HA, HJ7, HO_4, HO_6, HB⟩ := hcut
                    cases kq with
                    | zero => exact absurd HA.out (by simp [perm_lists.j2])
                    | succ kj7 =>
                      have H := HA.out
                      clear HA
                      simp only [perm_lists.j2] at H
                      by_cases c11 : x35_7 = true
                      · subst c11
                        have H1 : (some (([] : List (List Int)), false)) = some (r1, r2) := by rw [if_pos rfl] at H; exact H
                        clear H
                        have H := H1
                        clear H1
                        simp only [Option.some.injEq, Prod.mk.injEq] at H
                        obtain ⟨rfl, rfl⟩ := H
                        go_wp2
                        go_ret2
                        exact ⟨_, by first | rfl | (simp [errW_none, errW_some] <;> rfl) | (simp [*, errW_none, errW_some] <;> rfl), by first | exact Kd.S_nil _ _ _ _ _ | exact Kd.N_nil _ _ _ _ _ | exact Kd.V_nil _ _ _ _ _ | exact Kd.Q_nil _ _ _ _ _ | exact Kd.R_nil _ _ _ _ _, by repeat (first | (with_reducible first | exact HB.out | apply below_alloc | apply pw_below_drewN | apply below_drew1) | exact HB.out)⟩
                      · replace c11 := Bool.eq_false_iff.mpr c11
                        subst c11
                        have H1 : (if x6_2.length < 17592186044416 then ((some (x6_2 ++ [t267] : List Int)).bind fun y270 => (if 0 ≤ t268 then (if t268 < (a0.size : Int) then (if (bt a0 t268) = 41 then (if x4_1.length < 5864062014805 then (perm_lists.l0 kj7 a0 (x4_1 ++ [y270]) (wrap64 (t268 + 1))) else (none)) else (if (bt a0 t268) = 32 then (perm_lists.l1 kj7 a0 x4_1 t268 y270) else (some (([] : List (List Int)), false)))) else (none)) else (none))) else (none)) = some (r1, r2) := by rw [if_neg (show ¬ (false = true) by decide)] at H; exact H
                        clear H
                        have H := H1
                        clear H1
                        by_cases c12 : x6_2.length < 17592186044416
                        · rw [if_pos c12] at H
                          have LMc12 := Aside0.mk c12
                          clear c12
                          obtain ⟨y270, hy270⟩ : ∃ y_ : List Int, y_ = (x6_2 ++ [t267]) := ⟨_, rfl⟩
                          replace H : (if 0 ≤ t268 then (if t268 < (a0.size : Int) then (if (bt a0 t268) = 41 then (if x4_1.length < 5864062014805 then (perm_lists.l0 kj7 a0 (x4_1 ++ [y270]) (wrap64 (t268 + 1))) else (none)) else (if (bt a0 t268) = 32 then (perm_lists.l1 kj7 a0 x4_1 t268 y270) else (some (([] : List (List Int)), false)))) else (none)) else (none)) = some (r1, r2) := by first | (rw [hy270]; with_reducible exact H) | (have H2_ := (Option.bind_some _ _).symm.trans H; rw [hy270]; with_reducible exact H2_) | (have H2_ := (Option.bind_some _ _).symm.trans H; with_reducible exact H2_) | with_reducible exact H | (rw [hy270]; exact H) | exact H
                          have Ny270 := Aside0.mk hy270
                          clear hy270
                          by_cases c13 : 0 ≤ t268
                          · rw [if_pos c13] at H
                            have c13b0 : decide (0 ≤ t268) = true := decide_eq_true c13
                            clear c13
                            by_cases c14 : t268 < (a0.size : Int)
                            · rw [if_pos c14] at H
                              have c14b0 : decide (t268 < (a0.size : Int)) = true := decide_eq_true c14
                              clear c14
                              by_cases c16 : (bt a0 t268) = 41
                              · rw [if_pos c16] at H
                                have c16b0 : ((bt a0 t268) == 41) = true := beq_iff_eq.mpr c16
                                have c16b1 : ((bt a0 t268) != 41) = false := bne_eq_false_iff_eq.mpr c16
                                clear c16
                                by_cases c17 : x4_1.length < 5864062014805
                                · rw [if_pos c17] at H
                                  have LMc17 := Aside0.mk c17
                                  clear c17
                                  obtain ⟨y273, hy273⟩ : ∃ y_ : List (List Int), y_ = (x4_1 ++ [y270]) := ⟨_, rfl⟩
                                  replace H : (perm_lists.l0 kj7 a0 y273 (wrap64 (t268 + 1))) = some (r1, r2) := by first | (rw [hy273]; with_reducible exact H) | (have H2_ := (Option.bind_some _ _).symm.trans H; rw [hy273]; with_reducible exact H2_) | (have H2_ := (Option.bind_some _ _).symm.trans H; with_reducible exact H2_) | with_reducible exact H | (rw [hy273]; exact H) | exact H
                                  have Ny273 := Aside0.mk hy273
                                  clear hy273
                                  have H' := Aside0.mk H
                                  clear H
                                  go_wp2_with (first | ((with_reducible refine gate_builtin (b := .append) (xs := #[.tmp 36, .tmp 38]) rfl ?_); (try (refine gate_guard (by rfl) ?_; dsimp only)); at_builtin; refine Kd.R_append (Kd.int .i64) (w0 := w) w.heap.size rfl (.tmp 36) (.tmp 38) 22 3 (.int .i64 0) 8 rfl Tryd.underlying22 info3 rfl (by decide) (by omega) u6 x6_2 t267 [.int .i64 t267] (fun _ => True) (fun _ => False) rfl rfl ?aP (fun _ hk => hk.elim) ?aF ?aO ?aB ?aS ?aL ?_; (case aP => exact rfl); (case aB => exact (by repeat (first | (with_reducible first | exact HB.out | apply below_alloc | apply pw_below_drewN | apply below_drew1) | exact HB.out))); (case aF => exact (fun _ _ => trivial)); (case aO => exact (by (with_reducible repeat (first | apply Kd.R_alloc | apply Kd.R_drewN | apply Kd.R_drew)); exact HO_6.out)); (case aS => exact (below_size (by repeat (first | (with_reducible first | exact HB.out | apply below_alloc | apply pw_below_drewN | apply below_drew1) | exact HB.out)))); (case aL => have := LMc12.out; omega); intro v271 w18 ho hb hg hat; rw [← Ny270.out] at ho; have n0_ := Aside0.mk (Kd.S_after (ok := (fun _ => True)) (by (with_reducible repeat (first | apply Kd.S_alloc | apply Kd.S_drewN | apply Kd.S_drew)); exact Kd.S_mono HO_4.out (fun _ hk => ⟨trivial, hk⟩)) hg hat); have n1_ := Aside0.mk (hb); have n2_ := Aside0.mk (ho); clear HO_4; clear HB; clear HO_6; have HO_4 := n0_; have HB := n1_; have HO272 := n2_; clear n0_ n1_ n2_; clear ho hb hg hat; have p15 : 0 ≤ (t268 : Int) := of_decide_eq_true (by first | (with_reducible assumption) | assumption); have q15 : t268 < (a0.size : Int) := of_decide_eq_true (by first | (with_reducible assumption) | assumption); have hx15 := bt_at a0 t268; replace p15 := eq_true p15; replace q15 := eq_true q15; obtain ⟨Ao20, co20, eo20⟩ := Kd.R_slice HO272.out; subst eo20) | ((with_reducible refine gate_builtin (b := .append) (xs := #[.tmp 49, .tmp 51]) rfl ?_); (try (refine gate_guard (by rfl) ?_; dsimp only)); at_builtin; refine Kd.S_append (Kd.slice 3 (Kd.int .i64)) (w0 := w) w.heap.size rfl (.tmp 49) (.tmp 51) 37 22 (.slice none 0 0) 24 rfl Tryd.underlying37 info22 rfl (by decide) (by omega) u4 x4_1 y270 [.slice Ao20 y270.length co20] (fun _ => True) (fun k_ => some k_ = (.slice Ao20 y270.length co20 : Value).ownBlock) rfl rfl ?aP (fun k_ hk_ => ((Kd.R_mono (ok' := fun k_ => ((fun _ => True)) k_ ∧ some k_ ≠ (u4 : Value).ownBlock) (Kd.R_apart' (HO272.out) (Kd.S_typed HO_4.out) (by decide)) (fun k_ hk => ⟨trivial, hk.2⟩))).1 k_ hk_.symm) ?aF ?aO ?aB ?aS ?aL ?_; (case aP => exact Kd.M_row (Kd.R_mono (Kd.R_tight rfl (Kd.R_mono (ok' := fun k_ => ((fun _ => True)) k_ ∧ some k_ ≠ (u4 : Value).ownBlock) (Kd.R_apart' (HO272.out) (Kd.S_typed HO_4.out) (by decide)) (fun k_ hk => ⟨trivial, hk.2⟩))) (fun _ h_ => h_))); (case aB => exact (by repeat (first | (with_reducible first | exact HB.out | apply below_alloc | apply pw_below_drewN | apply below_drew1) | exact HB.out))); (case aF => exact (fun _ _ => trivial)); (case aO => exact (by (with_reducible repeat (first | apply Kd.S_alloc | apply Kd.S_drewN | apply Kd.S_drew)); exact Kd.S_mono HO_4.out (fun k_ hk => ⟨trivial, fun e_ => hk.2 e_⟩))); (case aS => exact (below_size (by repeat (first | (with_reducible first | exact HB.out | apply below_alloc | apply pw_below_drewN | apply below_drew1) | exact HB.out)))); (case aL => have := LMc17.out; omega); intro v274 w19 ho hb hg hat; rw [← Ny273.out] at ho; have n0_ := Aside0.mk (hb); have n1_ := Aside0.mk (ho); clear HB; clear HO_4; clear HO272; have HB := n0_; have HO275 := n1_; clear n0_ n1_; clear ho hb hg hat))
                                  go_roundg kj7
                                  case measure => have := HK1.out; have := HK2.out; have := HJ7.out; omega
                                  case rel => exact ⟨(y273), (wrap64 (t268 + 1)), (by first | rfl | (simp; done) | (simp [*]; done)), H', ⟨by have := HK1.out; have := HK2.out; have := HJ7.out; omega⟩, ⟨by (with_reducible repeat (first | apply Kd.S_alloc | apply Kd.S_drewN | apply Kd.S_drew)); exact HO275.out⟩, ⟨by repeat (first | (with_reducible first | exact HB.out | apply below_alloc | apply pw_below_drewN | apply below_drew1) | exact HB.out)⟩⟩
                                · rw [if_neg c17] at H
                                  exact absurd H (by simp)
                              · rw [if_neg c16] at H
                                have c16b0 : ((bt a0 t268) == 41) = false := beq_eq_false_iff_ne.mpr c16
                                have c16b1 : ((bt a0 t268) != 41) = true := bne_iff_ne.mpr c16
                                by_cases c22 : (bt a0 t268) = 32
                                · rw [if_pos c22] at H
                                  have c22b0 : ((bt a0 t268) == 32) = true := beq_iff_eq.mpr c22
                                  have c22b1 : ((bt a0 t268) != 32) = false := bne_eq_false_iff_eq.mpr c22
                                  clear c22
                                  have H' := Aside0.mk H
                                  clear H
                                  go_wp2_with (first | ((with_reducible refine gate_builtin (b := .append) (xs := #[.tmp 36, .tmp 38]) rfl ?_); (try (refine gate_guard (by rfl) ?_; dsimp only)); at_builtin; refine Kd.R_append (Kd.int .i64) (w0 := w) w.heap.size rfl (.tmp 36) (.tmp 38) 22 3 (.int .i64 0) 8 rfl Tryd.underlying22 info3 rfl (by decide) (by omega) u6 x6_2 t267 [.int .i64 t267] (fun _ => True) (fun _ => False) rfl rfl ?aP (fun _ hk => hk.elim) ?aF ?aO ?aB ?aS ?aL ?_; (case aP => exact rfl); (case aB => exact (by repeat (first | (with_reducible first | exact HB.out | apply below_alloc | apply pw_below_drewN | apply below_drew1) | exact HB.out))); (case aF => exact (fun _ _ => trivial)); (case aO => exact (by (with_reducible repeat (first | apply Kd.R_alloc | apply Kd.R_drewN | apply Kd.R_drew)); exact HO_6.out)); (case aS => exact (below_size (by repeat (first | (with_reducible first | exact HB.out | apply below_alloc | apply pw_below_drewN | apply below_drew1) | exact HB.out)))); (case aL => have := LMc12.out; omega); intro v271 w23 ho hb hg hat; rw [← Ny270.out] at ho; have n0_ := Aside0.mk (Kd.S_after (ok := (fun _ => True)) (by (with_reducible repeat (first | apply Kd.S_alloc | apply Kd.S_drewN | apply Kd.S_drew)); exact Kd.S_mono HO_4.out (fun _ hk => ⟨trivial, hk⟩)) hg hat); have n1_ := Aside0.mk (hb); have n2_ := Aside0.mk (ho); clear HO_4; clear HB; clear HO_6; have HO_4 := n0_; have HB := n1_; have HO272 := n2_; clear n0_ n1_ n2_; clear ho hb hg hat; have p15 : 0 ≤ (t268 : Int) := of_decide_eq_true (by first | (with_reducible assumption) | assumption); have q15 : t268 < (a0.size : Int) := of_decide_eq_true (by first | (with_reducible assumption) | assumption); have hx15 := bt_at a0 t268; replace p15 := eq_true p15; replace q15 := eq_true q15; have p21 : 0 ≤ (t268 : Int) := of_decide_eq_true (by first | (with_reducible assumption) | assumption); have q21 : t268 < (a0.size : Int) := of_decide_eq_true (by first | (with_reducible assumption) | assumption); have hx21 := bt_at a0 t268; replace p21 := eq_true p21; replace q21 := eq_true q21))
                                  go_roundg kj7
                                  case measure => have := HK1.out; have := HK2.out; have := HJ7.out; omega
                                  case rel => exact ⟨(t268), (y270), (by first | rfl | (simp; done) | (simp [*]; done)), H', ⟨by have := HK1.out; have := HK2.out; have := HJ7.out; omega⟩, ⟨by (with_reducible repeat (first | apply Kd.S_alloc | apply Kd.S_drewN | apply Kd.S_drew)); exact Kd.S_mono HO_4.out (fun _ hk => hk.2)⟩, ⟨by (with_reducible repeat (first | apply Kd.R_alloc | apply Kd.R_drewN | apply Kd.R_drew)); exact HO272.out⟩, ⟨by repeat (first | (with_reducible first | exact HB.out | apply below_alloc | apply pw_below_drewN | apply below_drew1) | exact HB.out)⟩⟩
                                · rw [if_neg c22] at H
                                  have c22b0 : ((bt a0 t268) == 32) = false := beq_eq_false_iff_ne.mpr c22
                                  have c22b1 : ((bt a0 t268) != 32) = true := bne_iff_ne.mpr c22
                                  simp only [Option.some.injEq, Prod.mk.injEq] at H
                                  obtain ⟨rfl, rfl⟩ := H
                                  go_wp2_with (first | ((with_reducible refine gate_builtin (b := .append) (xs := #[.tmp 36, .tmp 38]) rfl ?_); (try (refine gate_guard (by rfl) ?_; dsimp only)); at_builtin; refine Kd.R_append (Kd.int .i64) (w0 := w) w.heap.size rfl (.tmp 36) (.tmp 38) 22 3 (.int .i64 0) 8 rfl Tryd.underlying22 info3 rfl (by decide) (by omega) u6 x6_2 t267 [.int .i64 t267] (fun _ => True) (fun _ => False) rfl rfl ?aP (fun _ hk => hk.elim) ?aF ?aO ?aB ?aS ?aL ?_; (case aP => exact rfl); (case aB => exact (by repeat (first | (with_reducible first | exact HB.out | apply below_alloc | apply pw_below_drewN | apply below_drew1) | exact HB.out))); (case aF => exact (fun _ _ => trivial)); (case aO => exact (by (with_reducible repeat (first | apply Kd.R_alloc | apply Kd.R_drewN | apply Kd.R_drew)); exact HO_6.out)); (case aS => exact (below_size (by repeat (first | (with_reducible first | exact HB.out | apply below_alloc | apply pw_below_drewN | apply below_drew1) | exact HB.out)))); (case aL => have := LMc12.out; omega); intro v271 w24 ho hb hg hat; rw [← Ny270.out] at ho; have n0_ := Aside0.mk (Kd.S_after (ok := (fun _ => True)) (by (with_reducible repeat (first | apply Kd.S_alloc | apply Kd.S_drewN | apply Kd.S_drew)); exact Kd.S_mono HO_4.out (fun _ hk => ⟨trivial, hk⟩)) hg hat); have n1_ := Aside0.mk (hb); have n2_ := Aside0.mk (ho); clear HO_4; clear HB; clear HO_6; have HO_4 := n0_; have HB := n1_; have HO272 := n2_; clear n0_ n1_ n2_; clear ho hb hg hat; have p15 : 0 ≤ (t268 : Int) := of_decide_eq_true (by first | (with_reducible assumption) | assumption); have q15 : t268 < (a0.size : Int) := of_decide_eq_true (by first | (with_reducible assumption) | assumption); have hx15 := bt_at a0 t268; replace p15 := eq_true p15; replace q15 := eq_true q15; have p21 : 0 ≤ (t268 : Int) := of_decide_eq_true (by first | (with_reducible assumption) | assumption); have q21 : t268 < (a0.size : Int) := of_decide_eq_true (by first | (with_reducible assumption) | assumption); have hx21 := bt_at a0 t268; replace p21 := eq_true p21; replace q21 := eq_true q21))
                                  go_ret2
                                  exact ⟨_, by first | rfl | (simp [errW_none, errW_some] <;> rfl) | (simp [*, errW_none, errW_some] <;> rfl), by first | exact Kd.S_nil _ _ _ _ _ | exact Kd.N_nil _ _ _ _ _ | exact Kd.V_nil _ _ _ _ _ | exact Kd.Q_nil _ _ _ _ _ | exact Kd.R_nil _ _ _ _ _, by repeat (first | (with_reducible first | exact HB.out | apply below_alloc | apply pw_below_drewN | apply below_drew1) | exact HB.out)⟩
                            · rw [if_neg c14] at H
                              exact absurd H (by simp)
                          · rw [if_neg c13] at H
                            exact absurd H (by simp)
                        · rw [if_neg c12] at H
                          exact absurd H (by simp)
            · rw [if_neg c6] at H
              have c6b0 : ((bt a0 x5_1) == 40) = false := beq_eq_false_iff_ne.mpr c6
              have c6b1 : ((bt a0 x5_1) != 40) = true := bne_iff_ne.mpr c6
              simp only [Option.some.injEq, Prod.mk.injEq] at H
              obtain ⟨rfl, rfl⟩ := H
              have p5 : 0 ≤ (x5_1 : Int) := of_decide_eq_true (by first | (with_reducible assumption) | assumption)
              have q5 : x5_1 < (a0.size : Int) := of_decide_eq_true (by first | (with_reducible assumption) | assumption)
              have hx5 := bt_at a0 x5_1
              replace p5 := eq_true p5
              replace q5 := eq_true q5
              go_wp2
              go_ret2
              exact ⟨_, by first | rfl | (simp [errW_none, errW_some] <;> rfl) | (simp [*, errW_none, errW_some] <;> rfl), by first | exact Kd.S_nil _ _ _ _ _ | exact Kd.N_nil _ _ _ _ _ | exact Kd.V_nil _ _ _ _ _ | exact Kd.Q_nil _ _ _ _ _ | exact Kd.R_nil _ _ _ _ _, by repeat (first | (with_reducible first | exact HB.out | apply below_alloc | apply pw_below_drewN | apply below_drew1) | exact HB.out)⟩
          · rw [if_neg c4] at H
            exact absurd H (by simp)
        · rw [if_neg c3] at H
          have c3b0 : decide (x5_1 < (a0.size : Int)) = false := decide_eq_false c3
          clear c3
          simp only [Option.some.injEq, Prod.mk.injEq] at H
          obtain ⟨rfl, rfl⟩ := H
          obtain ⟨Ao25, co25, eo25⟩ := Kd.S_slice HO_4.out
          subst eo25
          go_wp2
          go_ret2
          exact ⟨_, by first | rfl | (simp [errW_none, errW_some] <;> rfl) | (simp [*, errW_none, errW_some] <;> rfl), by (with_reducible repeat (first | apply Kd.S_alloc | apply Kd.S_drewN | apply Kd.S_drew)); exact HO_4.out, by repeat (first | (with_reducible first | exact HB.out | apply below_alloc | apply pw_below_drewN | apply below_drew1) | exact HB.out)⟩

end Go.Proofs.YtoaalfpfklchfaaDoor.PPermBack
