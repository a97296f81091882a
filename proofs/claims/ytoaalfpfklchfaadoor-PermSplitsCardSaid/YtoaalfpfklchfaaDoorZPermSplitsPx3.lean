-- Printed by wip/tools/mk.py of this repo (the kit's print with turns made in memory).
import Derived.Test.YtoaalfpfklchfaaDoorZPermSplitsPx0
import Derived.Test.YtoaalfpfklchfaaDoorZPermSplitsPx1
import Derived.Test.YtoaalfpfklchfaaDoorZPermSplitsPx2
namespace Go.Proofs.YtoaalfpfklchfaaDoor.PPermSplits
open Go.RowKit Go.Proofs.YtoaalfpfklchfaaDoorW.PrintWords Go.Proofs.YtoaalfpfklchfaaDoorW.PrintLast Go.Proofs.YtoaalfpfklchfaaDoorW.PrintMore
attribute [local go_sem] max2_int min2_int max_two min_two max_three min_three max_four min_four   -- for this text's walks alone
set_option linter.unusedVariables false
set_option linter.unusedSimpArgs false

/-! ### perm_Rank: function 26 -/
mutual
def perm_Rank.l0 : Nat → List Int → Int → List Int → Int → Int → Option (Int × Int)
  | 0, _, _, _, _, _ => none
  | k + 1, x0, x5, x15, x16, x17 => if x17 < x16 then (if 0 ≤ x17 then (if x17 < (x15.length : Int) then (if 0 ≤ (wrap64 (x17 + 1)) then (if (wrap64 (x17 + 1)) ≤ (x0.length : Int) then (perm_Rank.l1 k x0 (wrap64 (x5 * (wrap64 ((x0.length : Int) - x17)))) (rd x15 x17) x15 x16 x17 (x0.drop ((wrap64 (x17 + 1)) : Int).toNat) ((x0.drop ((wrap64 (x17 + 1)) : Int).toNat).length : Int) 0) else (none)) else (none)) else (none)) else (none)) else (some (x5, 0))
def perm_Rank.l1 : Nat → List Int → Int → Int → List Int → Int → Int → List Int → Int → Int → Option (Int × Int)
  | 0, _, _, _, _, _, _, _, _, _ => none
  | k + 1, x0, x5, x7, x15, x16, x17, x31, x32, x33 => if x33 < x32 then (if 0 ≤ x33 then (if x33 < (x31.length : Int) then (if (rd x31 x33) < x7 then (perm_Rank.l1 k x0 (wrap64 (x5 + 1)) x7 x15 x16 x17 x31 x32 (wrap64 (x33 + 1))) else (perm_Rank.l1 k x0 x5 x7 x15 x16 x17 x31 x32 (wrap64 (x33 + 1)))) else (none)) else (none)) else (perm_Rank.l0 k x0 x5 x15 x16 (wrap64 (x17 + 1)))
end
def perm_Rank.f (k : Nat) (l0 : List Int) : Option (Int × Int) := (perm_Check.f k l0).bind fun t138 => (if t138 = 0 then (perm_Rank.l0 k l0 0 l0 (l0.length : Int) 0) else (some (0, t138)))
theorem perm_Rank.mono_l : ∀ k, (∀ y0 y1 y2 y3 y4, LeO (perm_Rank.l0 k y0 y1 y2 y3 y4) (perm_Rank.l0 (k + 1) y0 y1 y2 y3 y4)) ∧ (∀ y0 y1 y2 y3 y4 y5 y6 y7 y8, LeO (perm_Rank.l1 k y0 y1 y2 y3 y4 y5 y6 y7 y8) (perm_Rank.l1 (k + 1) y0 y1 y2 y3 y4 y5 y6 y7 y8))
  | 0 => ⟨fun _ _ _ _ _ r h => by simp [perm_Rank.l0] at h, fun _ _ _ _ _ _ _ _ _ r h => by simp [perm_Rank.l1] at h⟩
  | k + 1 => by
    obtain ⟨ih0, ih1⟩ := perm_Rank.mono_l k
    refine ⟨?_, ?_⟩
    · intro y0 y1 y2 y3 y4
      unfold perm_Rank.l0
      repeat' first
      | (with_reducible exact ih0 _ _ _ _ _)
      | (with_reducible exact ih1 _ _ _ _ _ _ _ _ _)
      | (with_reducible exact perm_Check.mono _ _)
      | (with_reducible exact LeO.refl _)
      | (with_reducible exact LeO.none _)
      | (with_reducible refine LeO.ite ?_ ?_)
      | (with_reducible refine LeO.bind ?_ (fun _ => ?_))
      | exact ih0 _ _ _ _ _
      | exact ih1 _ _ _ _ _ _ _ _ _
      | exact perm_Check.mono _ _
      | exact LeO.none _
      | refine LeO.ite ?_ ?_
      | refine LeO.bind ?_ (fun _ => ?_)
    · intro y0 y1 y2 y3 y4 y5 y6 y7 y8
      unfold perm_Rank.l1
      repeat' first
      | (with_reducible exact ih0 _ _ _ _ _)
      | (with_reducible exact ih1 _ _ _ _ _ _ _ _ _)
      | (with_reducible exact perm_Check.mono _ _)
      | (with_reducible exact LeO.refl _)
      | (with_reducible exact LeO.none _)
      | (with_reducible refine LeO.ite ?_ ?_)
      | (with_reducible refine LeO.bind ?_ (fun _ => ?_))
      | exact ih0 _ _ _ _ _
      | exact ih1 _ _ _ _ _ _ _ _ _
      | exact perm_Check.mono _ _
      | exact LeO.none _
      | refine LeO.ite ?_ ?_
      | refine LeO.bind ?_ (fun _ => ?_)
theorem perm_Rank.mono : ∀ a0 k, LeO (perm_Rank.f k a0) (perm_Rank.f (k + 1) a0) := by
  intro a0 k
  obtain ⟨ih0, ih1⟩ := perm_Rank.mono_l k
  unfold perm_Rank.f
  repeat' first
      | (with_reducible exact ih0 _ _ _ _ _)
      | (with_reducible exact ih1 _ _ _ _ _ _ _ _ _)
      | (with_reducible exact perm_Check.mono _ _)
      | (with_reducible exact LeO.refl _)
      | (with_reducible exact LeO.none _)
      | (with_reducible refine LeO.ite ?_ ?_)
      | (with_reducible refine LeO.bind ?_ (fun _ => ?_))
      | exact ih0 _ _ _ _ _
      | exact ih1 _ _ _ _ _ _ _ _ _
      | exact perm_Check.mono _ _
      | exact LeO.none _
      | refine LeO.ite ?_ ?_
      | refine LeO.bind ?_ (fun _ => ?_)
set_option maxHeartbeats 8000000 in
set_option maxRecDepth 100000 in
theorem perm_Rank.calls (k : Nat) (A0 : Option Addr) (c0 : Nat) (l0 : List Int) (r1 : Int) (r2 : Int) (w : World) (hr0 : Kd.C (Kd.int .i64) w A0 l0.length l0) (hc0 : l0.length ≤ c0) (h : perm_Rank.f k l0 = some (r1, r2)) :
    Calls Tryd.prog 26 #[.slice A0 l0.length c0] w fun e w' => e = .returned (.tuple #[.int .i64 r1, .int .i64 r2]) ∧ Drawn0 w w' := by
  have HR0 := Aside0.mk hr0
  have HC0 := Aside0.mk hc0
  clear hr0 hc0
  have H : ((perm_Check.f k l0).bind fun t138 => (if t138 = 0 then (perm_Rank.l0 k l0 0 l0 (l0.length : Int) 0) else (some (0, t138)))) = some (r1, r2) := h
  clear h
  replace H := Option.bind_eq_some_iff.mp H
  obtain ⟨t138, A20, H⟩ := H
  replace H : (if t138 = 0 then (perm_Rank.l0 k l0 0 l0 (l0.length : Int) 0) else (some (0, t138))) = some (r1, r2) := H
  have A2 := Aside0.mk A20
  clear A20
  by_cases c3 : t138 = 0
  · rw [if_pos c3] at H
    have c3b0 : (t138 == 0) = true := beq_iff_eq.mpr c3
    have c3b1 : (t138 != 0) = false := bne_eq_false_iff_eq.mpr c3
    clear c3
    have H' := Aside0.mk H
    clear H
    go_enter Tryd.func26, Tryd.ntmps26
    go_wp2_with (first | ((with_reducible refine gate_callee (f := 48) rfl ?_); refine goesL_ (some 11) rfl rfl Tryd.func48 (by kernel_rfl) rfl #[.slice A0 l0.length c0] rfl (by (try simp only [List.map_toArray, List.map_cons, List.map_nil]); first | done | rfl | (simp only [List.length_drop, List.length_take]; rfl)) ?_; (with_reducible refine (perm_Check.calls k _ _ l0 t138 _ ?side1 ?side2 A2.out).mono ?_); (case side1 => repeat (first | exact HR0.out | (with_reducible refine Kd.C_alloc ?_ _) | (with_reducible refine Kd.C_drewN ?_ _) | (with_reducible refine Kd.C_drew ?_))); (case side2 => exact HC0.out); rintro e w' ⟨rfl, ⟨nd, rfl⟩⟩; refine ⟨_, rfl, ?_⟩))
    go_loopg [5, 17] k (fun kq v5 v17 w' => ∃ (x5_1 : Int) (x17_1 : Int), v5 = .int .i64 x5_1 ∧ v17 = .int .i64 x17_1 ∧ Aside0 (perm_Rank.l0 kq l0 x5_1 l0 (l0.length : Int) x17_1 = some (r1, r2)) ∧ Aside0 (kq ≤ k) ∧ Drawn0 w w')
    case atStart => exact ⟨(0), (0), (by first | rfl | (simp; done) | (simp [*]; done)), (by first | rfl | (simp; done) | (simp [*]; done)), H', ⟨Nat.le_refl _⟩, by repeat (first | exact Drawn0.refl _ | apply Drawn0.step)⟩
    case round =>
      clear H'
      try clear c2
      try clear p2
      try clear c3
      try clear c3b0
      try clear c3b1
      obtain ⟨x5_1, x17_1, rfl, rfl, HA, HK1, ⟨m1, rfl⟩⟩ := hrel
      cases gk with
      | zero => exact absurd HA.out (by simp [perm_Rank.l0])
      | succ k1 =>
        have H := HA.out
        clear HA
        simp only [perm_Rank.l0] at H
        by_cases c4 : x17_1 < (l0.length : Int)
        · rw [if_pos c4] at H
          have c4b0 : decide (x17_1 < (l0.length : Int)) = true := decide_eq_true c4
          clear c4
          by_cases c5 : 0 ≤ x17_1
          · rw [if_pos c5] at H
            have c5b0 : decide (0 ≤ x17_1) = true := decide_eq_true c5
            clear c5
            by_cases c6 : x17_1 < (l0.length : Int)
            · rw [if_pos c6] at H
              have c6b0 : decide (x17_1 < (l0.length : Int)) = true := decide_eq_true c6
              clear c6
              obtain ⟨ji7, hji7⟩ : ∃ j_ : Int, (wrap64 (x17_1 + 1)) = j_ := ⟨_, rfl⟩
              replace H : (if 0 ≤ (ji7) then (if (ji7) ≤ (l0.length : Int) then (perm_Rank.l1 k1 l0 (wrap64 (x5_1 * (wrap64 ((l0.length : Int) - x17_1)))) (rd l0 x17_1) l0 (l0.length : Int) x17_1 (l0.drop ((ji7) : Int).toNat) ((l0.drop ((ji7) : Int).toNat).length : Int) 0) else (none)) else (none)) = some (r1, r2) := by first | (rw [hji7] at H; exact H) | (simp only [hji7] at H ⊢; exact H)
              have hji7w : (IntKind.i64.wrap (x17_1 + 1)) = ji7 := (i64_w _).trans hji7
              by_cases c8 : 0 ≤ (ji7)
              · rw [if_pos c8] at H
                have c8b0 := eq_true c8
                have c8b1 : decide (0 ≤ (ji7)) = true := decide_eq_true c8
                clear c8
                by_cases c9 : (ji7) ≤ (l0.length : Int)
                · rw [if_pos c9] at H
                  have c9b0 := eq_true c9
                  have c9b1 : decide ((ji7) ≤ (l0.length : Int)) = true := decide_eq_true c9
                  clear c9
                  have H' := Aside0.mk H
                  clear H
                  have p139 : 0 ≤ (x17_1 : Int) := of_decide_eq_true (by first | (with_reducible assumption) | assumption)
                  have q139 : x17_1 < (l0.length : Int) := of_decide_eq_true (by first | (with_reducible assumption) | assumption)
                  obtain ⟨ad139, e139, hx139_0⟩ := Kd.at_int HR0.out x17_1 p139 q139
                  cases e139
                  replace p139 := eq_true p139
                  replace q139 := eq_true q139
                  obtain ⟨i010, hi010, _, hsz10, _⟩ := info_parts info3
                  obtain ⟨A10, hcut10, hA10, hC10⟩ := print_drop_of (P := Tryd.prog) (Value.int .i64) 0 23 3 .i64 Tryd.underlying23 hi010 hsz10 (some ad139) c0 l0 (ji7) (of_decide_eq_true (by first | (with_reducible assumption) | assumption)) (of_decide_eq_true (by first | (with_reducible assumption) | assumption)) HC0.out
                  have HR140 := Aside0.mk (Kd.C_of_reads (h1 := fun _ => rfl) (hA10 _ (Kd.reads_of_C HR0.out)))
                  have HC140 := Aside0.mk hC10
                  clear hA10 hC10 hi010 hsz10
                  go_wp2
                  go_loopg [5, 33] k1 (fun kq v5 v33 w' => ∃ (x5_2 : Int) (x33_2 : Int), v5 = .int .i64 x5_2 ∧ v33 = .int .i64 x33_2 ∧ Aside0 (perm_Rank.l1 kq l0 x5_2 (rd l0 x17_1) l0 (l0.length : Int) x17_1 (l0.drop ((ji7) : Int).toNat) ((l0.drop ((ji7) : Int).toNat).length : Int) x33_2 = some (r1, r2)) ∧ Aside0 (kq ≤ k1) ∧ Drawn0 w w')
                  case atStart => exact ⟨(wrap64 (x5_1 * (wrap64 ((l0.length : Int) - x17_1)))), (0), (by first | rfl | (simp; done) | (simp [*]; done)), (by first | rfl | (simp; done) | (simp [*]; done)), H', ⟨Nat.le_refl _⟩, by repeat (first | exact Drawn0.refl _ | apply Drawn0.step)⟩
                  case round =>
                    clear H'
                    try clear p1
                    try clear q1
                    try clear hx1
                    try clear c2
                    try clear p2
                    try clear c3
                    try clear c3b0
                    try clear c3b1
                    try clear c4
                    try clear c4b0
                    try clear c5
                    try clear c5b0
                    try clear c6
                    try clear c6b0
                    try clear p6
                    try clear c8
                    try clear c8b0
                    try clear c8b1
                    try clear c9
                    try clear c9b0
                    try clear c9b1
                    try clear hx139_0
                    try clear p139
                    try clear p2
                    try clear q139
                    obtain ⟨x5_2, x33_2, rfl, rfl, HA, HK2, ⟨m2, rfl⟩⟩ := hrel
                    cases gk with
                    | zero => exact absurd HA.out (by simp [perm_Rank.l1])
                    | succ k2 =>
                      have H := HA.out
                      clear HA
                      simp only [perm_Rank.l1] at H
                      by_cases c11 : x33_2 < ((l0.drop ((ji7) : Int).toNat).length : Int)
                      · rw [if_pos c11] at H
                        have c11b0 : decide (x33_2 < ((l0.drop ((ji7) : Int).toNat).length : Int)) = true := decide_eq_true c11
                        have c11b0d := c11b0
                        try simp only [List.length_drop] at c11b0d
                        clear c11
                        by_cases c12 : 0 ≤ x33_2
                        · rw [if_pos c12] at H
                          have c12b0 : decide (0 ≤ x33_2) = true := decide_eq_true c12
                          clear c12
                          by_cases c13 : x33_2 < ((l0.drop ((ji7) : Int).toNat).length : Int)
                          · rw [if_pos c13] at H
                            have c13b0 : decide (x33_2 < ((l0.drop ((ji7) : Int).toNat).length : Int)) = true := decide_eq_true c13
                            have c13b0d := c13b0
                            try simp only [List.length_drop] at c13b0d
                            clear c13
                            by_cases c14 : (rd (l0.drop ((ji7) : Int).toNat) x33_2) < (rd l0 x17_1)
                            · rw [if_pos c14] at H
                              have c14b0 : decide ((rd (l0.drop ((ji7) : Int).toNat) x33_2) < (rd l0 x17_1)) = true := decide_eq_true c14
                              have c14b0d := c14b0
                              try simp only [List.length_drop] at c14b0d
                              clear c14
                              have H' := Aside0.mk H
                              clear H
                              have p141 : 0 ≤ (x33_2 : Int) := of_decide_eq_true (by first | (with_reducible assumption) | assumption)
                              have q141 : x33_2 < ((l0.drop ((ji7) : Int).toNat).length : Int) := of_decide_eq_true (by first | (with_reducible assumption) | assumption)
                              obtain ⟨ad141, e141, hx141_0⟩ := Kd.at_int HR140.out x33_2 p141 q141
                              cases e141
                              replace p141 := eq_true p141
                              replace q141 := eq_true q141
                              have q141d := q141
                              try simp only [List.length_drop] at q141d
                              go_wp2
                              go_roundg k2
                              case measure => have := HK1.out; have := HK2.out; omega
                              case rel => exact ⟨(wrap64 (x5_2 + 1)), (wrap64 (x33_2 + 1)), (by first | rfl | (simp; done) | (simp [*]; done)), (by first | rfl | (simp; done) | (simp [*]; done)), H', ⟨by have := HK1.out; have := HK2.out; omega⟩, by repeat (first | exact Drawn0.refl _ | apply Drawn0.step)⟩
                            · rw [if_neg c14] at H
                              have c14b0 : decide ((rd (l0.drop ((ji7) : Int).toNat) x33_2) < (rd l0 x17_1)) = false := decide_eq_false c14
                              have c14b0d := c14b0
                              try simp only [List.length_drop] at c14b0d
                              clear c14
                              have H' := Aside0.mk H
                              clear H
                              have p141 : 0 ≤ (x33_2 : Int) := of_decide_eq_true (by first | (with_reducible assumption) | assumption)
                              have q141 : x33_2 < ((l0.drop ((ji7) : Int).toNat).length : Int) := of_decide_eq_true (by first | (with_reducible assumption) | assumption)
                              obtain ⟨ad141, e141, hx141_0⟩ := Kd.at_int HR140.out x33_2 p141 q141
                              cases e141
                              replace p141 := eq_true p141
                              replace q141 := eq_true q141
                              have q141d := q141
                              try simp only [List.length_drop] at q141d
                              go_wp2
                              go_roundg k2
                              case measure => have := HK1.out; have := HK2.out; omega
                              case rel => exact ⟨(x5_2), (wrap64 (x33_2 + 1)), (by first | rfl | (simp; done) | (simp [*]; done)), (by first | rfl | (simp; done) | (simp [*]; done)), H', ⟨by have := HK1.out; have := HK2.out; omega⟩, by repeat (first | exact Drawn0.refl _ | apply Drawn0.step)⟩
                          · rw [if_neg c13] at H
                            exact absurd H (by simp)
                        · rw [if_neg c12] at H
                          exact absurd H (by simp)
                      · rw [if_neg c11] at H
                        have c11b0 : decide (x33_2 < ((l0.drop ((ji7) : Int).toNat).length : Int)) = false := decide_eq_false c11
                        have c11b0d := c11b0
                        try simp only [List.length_drop] at c11b0d
                        clear c11
                        have H' := Aside0.mk H
                        clear H
                        go_wp2
                        go_roundg k2
                        case measure => have := HK1.out; have := HK2.out; omega
                        case rel => exact ⟨(x5_2), (wrap64 (x17_1 + 1)), (by first | rfl | (simp; done) | (simp [*]; done)), (by first | rfl | (simp; done) | (simp [*]; done)), H', ⟨by have := HK1.out; have := HK2.out; omega⟩, by repeat (first | exact Drawn0.refl _ | apply Drawn0.step)⟩
                · rw [if_neg c9] at H
                  exact absurd H (by simp)
              · rw [if_neg c8] at H
                exact absurd H (by simp)
            · rw [if_neg c6] at H
              exact absurd H (by simp)
          · rw [if_neg c5] at H
            exact absurd H (by simp)
        · rw [if_neg c4] at H
          have c4b0 : decide (x17_1 < (l0.length : Int)) = false := decide_eq_false c4
          clear c4
          simp only [Option.some.injEq, Prod.mk.injEq] at H
          obtain ⟨rfl, rfl⟩ := H
          go_wp2
          go_ret2
          exact ⟨by first | rfl | (simp; done) | (simp [*]; done), by repeat (first | exact Drawn0.refl _ | apply Drawn0.step)⟩
  · rw [if_neg c3] at H
    have c3b0 : (t138 == 0) = false := beq_eq_false_iff_ne.mpr c3
    have c3b1 : (t138 != 0) = true := bne_iff_ne.mpr c3
    simp only [Option.some.injEq, Prod.mk.injEq] at H
    obtain ⟨rfl, rfl⟩ := H
    go_enter Tryd.func26, Tryd.ntmps26
    go_wp2_with (first | ((with_reducible refine gate_callee (f := 48) rfl ?_); refine goesL_ (some 11) rfl rfl Tryd.func48 (by kernel_rfl) rfl #[.slice A0 l0.length c0] rfl (by (try simp only [List.map_toArray, List.map_cons, List.map_nil]); first | done | rfl | (simp only [List.length_drop, List.length_take]; rfl)) ?_; (with_reducible refine (perm_Check.calls k _ _ l0 t138 _ ?side1 ?side2 A2.out).mono ?_); (case side1 => repeat (first | exact HR0.out | (with_reducible refine Kd.C_alloc ?_ _) | (with_reducible refine Kd.C_drewN ?_ _) | (with_reducible refine Kd.C_drew ?_))); (case side2 => exact HC0.out); rintro e w' ⟨rfl, ⟨nd, rfl⟩⟩; refine ⟨_, rfl, ?_⟩))
    go_ret2
    exact ⟨by first | rfl | (simp; done) | (simp [*]; done), by repeat (first | exact Drawn0.refl _ | apply Drawn0.step)⟩

/-! ### strconv_small: function 102 -/
def strconv_small.f (a0 : Int) : Option (ByteArray) := if 0 ≤ a0 then (if a0 < 10 then some ⟨#[UInt8.ofNat (48 + a0.toNat)]⟩ else (if a0 < 20 then some ⟨#[49, UInt8.ofNat (38 + a0.toNat)]⟩ else none)) else none
set_option maxHeartbeats 8000000 in
set_option maxRecDepth 100000 in
theorem strconv_small.calls (a0 : Int) (r : ByteArray) (w : World) (h : strconv_small.f a0 = some r) :
    Calls Tryd.prog 102 #[.int .i64 a0] w fun e w' => e = .returned (.string r) ∧ Drawn0 w w' := by
  have hb : 0 ≤ a0 ∧ a0 < 20 := by
    unfold strconv_small.f at h
    repeat' (split at h)
    all_goals first | omega | cases h
  obtain ⟨h0, h1⟩ := hb
  have hc : a0 = 0 ∨ a0 = 1 ∨ a0 = 2 ∨ a0 = 3 ∨ a0 = 4 ∨ a0 = 5 ∨ a0 = 6 ∨ a0 = 7 ∨ a0 = 8 ∨ a0 = 9 ∨ a0 = 10 ∨ a0 = 11 ∨ a0 = 12 ∨ a0 = 13 ∨ a0 = 14 ∨ a0 = 15 ∨ a0 = 16 ∨ a0 = 17 ∨ a0 = 18 ∨ a0 = 19 := by omega
  clear h0 h1
  rcases hc with rfl | rfl | rfl | rfl | rfl | rfl | rfl | rfl | rfl | rfl | rfl | rfl | rfl | rfl | rfl | rfl | rfl | rfl | rfl | rfl
  all_goals
    obtain rfl := Option.some.inj ((show some _ = strconv_small.f _ from rfl).trans h)
    go_enter Tryd.func102, Tryd.ntmps102
    go_wp2
    go_ret
    exact ⟨rfl, Drawn0.refl _⟩


-- NOT PRINTED: function 103 (strconv_numDigits)

-- NOT PRINTED: function 104 (strconv_formatBase10)

-- NOT PRINTED: function 119 (bits_TrailingZeros32)

-- NOT PRINTED: function 120 (bits_TrailingZeros64)

-- NOT PRINTED: function 115 (bits_TrailingZeros)

-- NOT PRINTED: function 105 (strconv_formatBits)

/-! ### strconv_FormatInt: function 94 -/
def strconv_FormatInt.j0 : Nat → Int → Bool → Option (ByteArray)
  | 0, _, _ => none
  | k + 1, x0, x17 => if x17 = true then ((strconv_small.f x0).bind fun t160 => (some t160)) else (none)
def strconv_FormatInt.f (k : Nat) (a0 : Int) (a1 : Int) : Option (ByteArray) := if a1 = 10 then (if 0 ≤ a0 then (strconv_FormatInt.j0 k a0 (decide (a0 < 100))) else (strconv_FormatInt.j0 k a0 false)) else (none)
theorem strconv_FormatInt.mono_l : ∀ k, (∀ y0 y1, LeO (strconv_FormatInt.j0 k y0 y1) (strconv_FormatInt.j0 (k + 1) y0 y1))
  | 0 => fun _ _ r h => by simp [strconv_FormatInt.j0] at h
  | k + 1 => by
    have ih0 := strconv_FormatInt.mono_l k
    · intro y0 y1
      unfold strconv_FormatInt.j0
      repeat' first
      | (with_reducible exact ih0 _ _)
      | (with_reducible exact LeO.refl _)
      | (with_reducible exact LeO.none _)
      | (with_reducible refine LeO.ite ?_ ?_)
      | (with_reducible refine LeO.bind ?_ (fun _ => ?_))
      | exact ih0 _ _
      | exact LeO.none _
      | refine LeO.ite ?_ ?_
      | refine LeO.bind ?_ (fun _ => ?_)
theorem strconv_FormatInt.mono : ∀ a0 a1 k, LeO (strconv_FormatInt.f k a0 a1) (strconv_FormatInt.f (k + 1) a0 a1) := by
  intro a0 a1 k
  have ih0 := strconv_FormatInt.mono_l k
  unfold strconv_FormatInt.f
  repeat' first
      | (with_reducible exact ih0 _ _)
      | (with_reducible exact LeO.refl _)
      | (with_reducible exact LeO.none _)
      | (with_reducible refine LeO.ite ?_ ?_)
      | (with_reducible refine LeO.bind ?_ (fun _ => ?_))
      | exact ih0 _ _
      | exact LeO.none _
      | refine LeO.ite ?_ ?_
      | refine LeO.bind ?_ (fun _ => ?_)
set_option maxHeartbeats 8000000 in
set_option maxRecDepth 100000 in
theorem strconv_FormatInt.calls (k : Nat) (a0 : Int) (a1 : Int) (r : ByteArray) (w : World) (h : strconv_FormatInt.f k a0 a1 = some r) :
    Calls Tryd.prog 94 #[.int .i64 a0, .int .i64 a1] w fun e w' => e = .returned (.string r) ∧ Below w.heap.size w w' := by
  have HB := Aside0.mk (Below.refl w.heap.size w)
  have H : (if a1 = 10 then (if 0 ≤ a0 then (strconv_FormatInt.j0 k a0 (decide (a0 < 100))) else (strconv_FormatInt.j0 k a0 false)) else (none)) = some r := h
  clear h
  by_cases c3 : a1 = 10
  · rw [if_pos c3] at H
    have c3b0 : (a1 == 10) = true := beq_iff_eq.mpr c3
    have c3b1 : (a1 != 10) = false := bne_eq_false_iff_eq.mpr c3
    clear c3
    have HC4 := Aside0.mk H
    clear H
    go_enter Tryd.func94, Tryd.ntmps94
    go_upto_region 2 with (fail)
    go_cut [17] (fun v17 wc => ∃ (kq : Nat) (x17_3 : Bool), v17 = .bool x17_3 ∧ Aside0 (strconv_FormatInt.j0 kq a0 x17_3 = some r) ∧ Aside0 (kq ≤ k) ∧ Aside0 (Below w.heap.size w wc))
    case first =>
      have H := HC4.out
      clear HC4
      by_cases c5 : 0 ≤ a0
      · rw [if_pos c5] at H
        have c5b0 : decide (0 ≤ a0) = true := decide_eq_true c5
        clear c5
        (first | rw [c5b0] | (simp only [i64_w, i32_w]; rw [c5b0]) | skip)
        have H' := Aside0.mk H
        clear H
        go_wp2
        go_meet
        case rel => exact ⟨_, (decide (a0 < 100)), (by first | rfl | (simp; done) | (simp [*]; done)), H', ⟨by first | omega | exact Nat.le_refl _⟩, ⟨by repeat (first | (with_reducible first | exact HB.out | apply below_alloc | apply pw_below_drewN | apply below_drew1) | exact HB.out)⟩⟩
      · rw [if_neg c5] at H
        have c5b0 : decide (0 ≤ a0) = false := decide_eq_false c5
        clear c5
        (first | rw [c5b0] | (simp only [i64_w, i32_w]; rw [c5b0]) | skip)
        have H' := Aside0.mk H
        clear H
        go_wp2
        go_meet
        case rel => exact ⟨_, (false), (by first | rfl | (simp; done) | (simp [*]; done)), H', ⟨by first | omega | exact Nat.le_refl _⟩, ⟨by repeat (first | (with_reducible first | exact HB.out | apply below_alloc | apply pw_below_drewN | apply below_drew1) | exact HB.out)⟩⟩
    case rest =>
      clear HC4
      try clear p2
      try clear c3
      try clear c3b0
      try clear c3b1
      try clear c5
      try clear c5b0
      obtain ⟨kq, x17_3, rfl, HA, HJ3, HB⟩ := hcut
      cases kq with
      | zero => exact absurd HA.out (by simp [strconv_FormatInt.j0])
      | succ kj3 =>
        have H := HA.out
        clear HA
        simp only [strconv_FormatInt.j0] at H
        by_cases c6 : x17_3 = true
        · subst c6
          have H1 : ((strconv_small.f a0).bind fun t160 => (some t160)) = some r := by rw [if_pos rfl] at H; exact H
          clear H
          have H := H1
          clear H1
          replace H := Option.bind_eq_some_iff.mp H
          obtain ⟨t160, A70, H⟩ := H
          replace H : (some t160) = some r := H
          have A7 := Aside0.mk A70
          clear A70
          obtain rfl := Option.some.inj H
          go_wp2_with (first | ((with_reducible refine gate_callee (f := 102) rfl ?_); refine goesL_ (some 19) rfl rfl Tryd.func102 (by kernel_rfl) rfl #[.int .i64 a0] rfl (by (try simp only [List.map_toArray, List.map_cons, List.map_nil]); first | done | rfl | (simp only [List.length_drop, List.length_take]; rfl)) ?_; (with_reducible refine (strconv_small.calls a0 t160 _ A7.out).mono ?_); rintro e w' ⟨rfl, ⟨nd, rfl⟩⟩; refine ⟨_, rfl, ?_⟩))
          go_ret
          exact ⟨by first | rfl | (simp [errW_none, errW_some] <;> rfl) | (simp [*, errW_none, errW_some] <;> rfl), by repeat (first | (with_reducible first | exact HB.out | apply below_alloc | apply pw_below_drewN | apply below_drew1) | exact HB.out)⟩
        · replace c6 := Bool.eq_false_iff.mpr c6
          subst c6
          have H1 : (none) = some r := by rw [if_neg (show ¬ (false = true) by decide)] at H; exact H
          clear H
          have H := H1
          clear H1
          exact absurd H (by simp)
  · rw [if_neg c3] at H
    exact absurd H (by simp)

/-! ### strconv_Itoa_80: function 80 -/
def strconv_Itoa_80.f (k : Nat) (a0 : Int) : Option (ByteArray) := (strconv_FormatInt.f k a0 10).bind fun t161 => (some t161)
theorem strconv_Itoa_80.mono : ∀ a0 k, LeO (strconv_Itoa_80.f k a0) (strconv_Itoa_80.f (k + 1) a0) := by
  intro a0 k
  unfold strconv_Itoa_80.f
  repeat' first
      | (with_reducible exact strconv_FormatInt.mono _ _ _)
      | (with_reducible exact LeO.refl _)
      | (with_reducible exact LeO.none _)
      | (with_reducible refine LeO.ite ?_ ?_)
      | (with_reducible refine LeO.bind ?_ (fun _ => ?_))
      | exact strconv_FormatInt.mono _ _ _
      | exact LeO.none _
      | refine LeO.ite ?_ ?_
      | refine LeO.bind ?_ (fun _ => ?_)
set_option maxHeartbeats 8000000 in
set_option maxRecDepth 100000 in
theorem strconv_Itoa_80.calls (k : Nat) (a0 : Int) (r : ByteArray) (w : World) (h : strconv_Itoa_80.f k a0 = some r) :
    Calls Tryd.prog 80 #[.int .i64 a0] w fun e w' => e = .returned (.string r) ∧ Below w.heap.size w w' := by
  have HB := Aside0.mk (Below.refl w.heap.size w)
  have H : ((strconv_FormatInt.f k a0 10).bind fun t161 => (some t161)) = some r := h
  clear h
  replace H := Option.bind_eq_some_iff.mp H
  obtain ⟨t161, A20, H⟩ := H
  replace H : (some t161) = some r := H
  have A2 := Aside0.mk A20
  clear A20
  obtain rfl := Option.some.inj H
  go_enter Tryd.func80, Tryd.ntmps80
  go_wp2_with (first | ((with_reducible refine gate_callee (f := 94) rfl ?_); refine goesL_ (some 4) rfl rfl Tryd.func94 (by kernel_rfl) rfl #[.int .i64 a0, .int .i64 10] rfl (by (try simp only [List.map_toArray, List.map_cons, List.map_nil]); first | done | rfl | (simp only [List.length_drop, List.length_take]; rfl)) ?_; (with_reducible refine (strconv_FormatInt.calls k a0 10 t161 _ A2.out).mono ?_); rintro e w3 ⟨rfl, hb⟩; refine ⟨_, rfl, ?_⟩; have n0_ := Aside0.mk (below_step (by repeat (first | (with_reducible first | exact HB.out | apply below_alloc | apply pw_below_drewN | apply below_drew1) | exact HB.out)) hb); clear HB; have HB := n0_; clear n0_; (try clear hb); (try clear hb2); (try clear hk); (try clear hi)))
  go_ret
  exact ⟨by first | rfl | (simp [errW_none, errW_some] <;> rfl) | (simp [*, errW_none, errW_some] <;> rfl), by repeat (first | (with_reducible first | exact HB.out | apply below_alloc | apply pw_below_drewN | apply below_drew1) | exact HB.out)⟩

/-! ### strconv_Itoa_70: function 70 -/
def strconv_Itoa_70.f (k : Nat) (a0 : Int) : Option (ByteArray) := (strconv_Itoa_80.f k a0).bind fun t162 => (some t162)
theorem strconv_Itoa_70.mono : ∀ a0 k, LeO (strconv_Itoa_70.f k a0) (strconv_Itoa_70.f (k + 1) a0) := by
  intro a0 k
  unfold strconv_Itoa_70.f
  repeat' first
      | (with_reducible exact strconv_Itoa_80.mono _ _)
      | (with_reducible exact LeO.refl _)
      | (with_reducible exact LeO.none _)
      | (with_reducible refine LeO.ite ?_ ?_)
      | (with_reducible refine LeO.bind ?_ (fun _ => ?_))
      | exact strconv_Itoa_80.mono _ _
      | exact LeO.none _
      | refine LeO.ite ?_ ?_
      | refine LeO.bind ?_ (fun _ => ?_)
set_option maxHeartbeats 8000000 in
set_option maxRecDepth 100000 in
theorem strconv_Itoa_70.calls (k : Nat) (a0 : Int) (r : ByteArray) (w : World) (h : strconv_Itoa_70.f k a0 = some r) :
    Calls Tryd.prog 70 #[.int .i64 a0] w fun e w' => e = .returned (.string r) ∧ Below w.heap.size w w' := by
  have HB := Aside0.mk (Below.refl w.heap.size w)
  have H : ((strconv_Itoa_80.f k a0).bind fun t162 => (some t162)) = some r := h
  clear h
  replace H := Option.bind_eq_some_iff.mp H
  obtain ⟨t162, A20, H⟩ := H
  replace H : (some t162) = some r := H
  have A2 := Aside0.mk A20
  clear A20
  obtain rfl := Option.some.inj H
  go_enter Tryd.func70, Tryd.ntmps70
  go_wp2_with (first | ((with_reducible refine gate_callee (f := 80) rfl ?_); refine goesL_ (some 4) rfl rfl Tryd.func80 (by kernel_rfl) rfl #[.int .i64 a0] rfl (by (try simp only [List.map_toArray, List.map_cons, List.map_nil]); first | done | rfl | (simp only [List.length_drop, List.length_take]; rfl)) ?_; (with_reducible refine (strconv_Itoa_80.calls k a0 t162 _ A2.out).mono ?_); rintro e w3 ⟨rfl, hb⟩; refine ⟨_, rfl, ?_⟩; have n0_ := Aside0.mk (below_step (by repeat (first | (with_reducible first | exact HB.out | apply below_alloc | apply pw_below_drewN | apply below_drew1) | exact HB.out)) hb); clear HB; have HB := n0_; clear n0_; (try clear hb); (try clear hb2); (try clear hk); (try clear hi)))
  go_ret
  exact ⟨by first | rfl | (simp [errW_none, errW_some] <;> rfl) | (simp [*, errW_none, errW_some] <;> rfl), by repeat (first | (with_reducible first | exact HB.out | apply below_alloc | apply pw_below_drewN | apply below_drew1) | exact HB.out)⟩

/-! ### perm_Format: function 41 -/
mutual
def perm_Format.l0 : Nat → ByteArray → List (List Int) → Int → Int → Option (ByteArray × Int)
  | 0, _, _, _, _ => none
  | k + 1, x5, x16, x17, x18 => if x18 < x17 then (if 0 ≤ x18 then (if x18 < (x16.length : Int) then (perm_Format.l1 k x5 x16 x17 x18 (rd_L1 x16 x18) ((rd_L1 x16 x18).length : Int) 0) else (none)) else (none)) else (if x5.toList = ([] : List UInt8) then (some ((⟨#[40, 41]⟩ : ByteArray), 0)) else (some (x5, 0)))
def perm_Format.l1 : Nat → ByteArray → List (List Int) → Int → Int → List Int → Int → Int → Option (ByteArray × Int)
  | 0, _, _, _, _, _, _, _ => none
  | k + 1, x5, x16, x17, x18, x22, x23, x24 => if x24 < x23 then (if 0 ≤ x24 then (if x24 < (x22.length : Int) then (if x24 = 0 then (if x5.size + 1 ≤ 9223372036854775807 then ((strconv_Itoa_70.f k (rd x22 x24)).bind fun t169 => (if (x5 ++ (⟨#[40]⟩ : ByteArray)).size + t169.size ≤ 9223372036854775807 then (perm_Format.l1 k ((x5 ++ (⟨#[40]⟩ : ByteArray)) ++ t169) x16 x17 x18 x22 x23 (wrap64 (x24 + 1))) else (none))) else (none)) else (if x5.size + 1 ≤ 9223372036854775807 then ((strconv_Itoa_70.f k (rd x22 x24)).bind fun t170 => (if (x5 ++ (⟨#[32]⟩ : ByteArray)).size + t170.size ≤ 9223372036854775807 then (perm_Format.l1 k ((x5 ++ (⟨#[32]⟩ : ByteArray)) ++ t170) x16 x17 x18 x22 x23 (wrap64 (x24 + 1))) else (none))) else (none))) else (none)) else (none)) else (if x5.size + 1 ≤ 9223372036854775807 then (perm_Format.l0 k (x5 ++ (⟨#[41]⟩ : ByteArray)) x16 x17 (wrap64 (x18 + 1))) else (none))
end
def perm_Format.f (k : Nat) (l0 : List Int) : Option (ByteArray × Int) := (perm_Check.f k l0).bind fun t163 => (if t163 = 0 then ((perm_cycles.f k l0).bind fun t164 => (perm_Format.l0 k (⟨#[]⟩ : ByteArray) t164 (t164.length : Int) 0)) else (some ((⟨#[]⟩ : ByteArray), t163)))
theorem perm_Format.mono_l : ∀ k, (∀ y0 y1 y2 y3, LeO (perm_Format.l0 k y0 y1 y2 y3) (perm_Format.l0 (k + 1) y0 y1 y2 y3)) ∧ (∀ y0 y1 y2 y3 y4 y5 y6, LeO (perm_Format.l1 k y0 y1 y2 y3 y4 y5 y6) (perm_Format.l1 (k + 1) y0 y1 y2 y3 y4 y5 y6))
  | 0 => ⟨fun _ _ _ _ r h => by simp [perm_Format.l0] at h, fun _ _ _ _ _ _ _ r h => by simp [perm_Format.l1] at h⟩
  | k + 1 => by
    obtain ⟨ih0, ih1⟩ := perm_Format.mono_l k
    refine ⟨?_, ?_⟩
    · intro y0 y1 y2 y3
      unfold perm_Format.l0
      repeat' first
      | (with_reducible exact ih0 _ _ _ _)
      | (with_reducible exact ih1 _ _ _ _ _ _ _)
      | (with_reducible exact perm_Check.mono _ _)
      | (with_reducible exact perm_cycles.mono _ _)
      | (with_reducible exact strconv_Itoa_70.mono _ _)
      | (with_reducible exact LeO.refl _)
      | (with_reducible exact LeO.none _)
      | (with_reducible refine LeO.ite ?_ ?_)
      | (with_reducible refine LeO.bind ?_ (fun _ => ?_))
      | exact ih0 _ _ _ _
      | exact ih1 _ _ _ _ _ _ _
      | exact perm_Check.mono _ _
      | exact perm_cycles.mono _ _
      | exact strconv_Itoa_70.mono _ _
      | exact LeO.none _
      | refine LeO.ite ?_ ?_
      | refine LeO.bind ?_ (fun _ => ?_)
    · intro y0 y1 y2 y3 y4 y5 y6
      unfold perm_Format.l1
      repeat' first
      | (with_reducible exact ih0 _ _ _ _)
      | (with_reducible exact ih1 _ _ _ _ _ _ _)
      | (with_reducible exact perm_Check.mono _ _)
      | (with_reducible exact perm_cycles.mono _ _)
      | (with_reducible exact strconv_Itoa_70.mono _ _)
      | (with_reducible exact LeO.refl _)
      | (with_reducible exact LeO.none _)
      | (with_reducible refine LeO.ite ?_ ?_)
      | (with_reducible refine LeO.bind ?_ (fun _ => ?_))
      | exact ih0 _ _ _ _
      | exact ih1 _ _ _ _ _ _ _
      | exact perm_Check.mono _ _
      | exact perm_cycles.mono _ _
      | exact strconv_Itoa_70.mono _ _
      | exact LeO.none _
      | refine LeO.ite ?_ ?_
      | refine LeO.bind ?_ (fun _ => ?_)
theorem perm_Format.mono : ∀ a0 k, LeO (perm_Format.f k a0) (perm_Format.f (k + 1) a0) := by
  intro a0 k
  obtain ⟨ih0, ih1⟩ := perm_Format.mono_l k
  unfold perm_Format.f
  repeat' first
      | (with_reducible exact ih0 _ _ _ _)
      | (with_reducible exact ih1 _ _ _ _ _ _ _)
      | (with_reducible exact perm_Check.mono _ _)
      | (with_reducible exact perm_cycles.mono _ _)
      | (with_reducible exact strconv_Itoa_70.mono _ _)
      | (with_reducible exact LeO.refl _)
      | (with_reducible exact LeO.none _)
      | (with_reducible refine LeO.ite ?_ ?_)
      | (with_reducible refine LeO.bind ?_ (fun _ => ?_))
      | exact ih0 _ _ _ _
      | exact ih1 _ _ _ _ _ _ _
      | exact perm_Check.mono _ _
      | exact perm_cycles.mono _ _
      | exact strconv_Itoa_70.mono _ _
      | exact LeO.none _
      | refine LeO.ite ?_ ?_
      | refine LeO.bind ?_ (fun _ => ?_)
set_option maxHeartbeats 8000000 in
set_option maxRecDepth 100000 in
theorem perm_Format.calls (k : Nat) (A0 : Option Addr) (c0 : Nat) (l0 : List Int) (r1 : ByteArray) (r2 : Int) (w : World) (hr0 : Kd.C (Kd.int .i64) w A0 l0.length l0) (hc0 : l0.length ≤ c0) (h : perm_Format.f k l0 = some (r1, r2)) :
    Calls Tryd.prog 41 #[.slice A0 l0.length c0] w fun e w' => e = .returned (.tuple #[.string r1, .int .i64 r2]) ∧ Below w.heap.size w w' := by
  have HR0 := Aside0.mk hr0
  have HC0 := Aside0.mk hc0
  clear hr0 hc0
  have HB := Aside0.mk (Below.refl w.heap.size w)
  have H : ((perm_Check.f k l0).bind fun t163 => (if t163 = 0 then ((perm_cycles.f k l0).bind fun t164 => (perm_Format.l0 k (⟨#[]⟩ : ByteArray) t164 (t164.length : Int) 0)) else (some ((⟨#[]⟩ : ByteArray), t163)))) = some (r1, r2) := h
  clear h
  replace H := Option.bind_eq_some_iff.mp H
  obtain ⟨t163, A20, H⟩ := H
  replace H : (if t163 = 0 then ((perm_cycles.f k l0).bind fun t164 => (perm_Format.l0 k (⟨#[]⟩ : ByteArray) t164 (t164.length : Int) 0)) else (some ((⟨#[]⟩ : ByteArray), t163))) = some (r1, r2) := H
  have A2 := Aside0.mk A20
  clear A20
  by_cases c3 : t163 = 0
  · rw [if_pos c3] at H
    have c3b0 : (t163 == 0) = true := beq_iff_eq.mpr c3
    have c3b1 : (t163 != 0) = false := bne_eq_false_iff_eq.mpr c3
    clear c3
    replace H := Option.bind_eq_some_iff.mp H
    obtain ⟨t164, A40, H⟩ := H
    replace H : (perm_Format.l0 k (⟨#[]⟩ : ByteArray) t164 (t164.length : Int) 0) = some (r1, r2) := H
    have A4 := Aside0.mk A40
    clear A40
    have H' := Aside0.mk H
    clear H
    go_enter Tryd.func41, Tryd.ntmps41
    go_wp2_with (first | ((with_reducible refine gate_callee (f := 48) rfl ?_); refine goesL_ (some 11) rfl rfl Tryd.func48 (by kernel_rfl) rfl #[.slice A0 l0.length c0] rfl (by (try simp only [List.map_toArray, List.map_cons, List.map_nil]); first | done | rfl | (simp only [List.length_drop, List.length_take]; rfl)) ?_; (with_reducible refine (perm_Check.calls k _ _ l0 t163 _ ?side1 ?side2 A2.out).mono ?_); (case side1 => repeat (first | exact HR0.out | (with_reducible refine Kd.C_alloc ?_ _) | (with_reducible refine Kd.C_drewN ?_ _) | (with_reducible refine Kd.C_drew ?_))); (case side2 => exact HC0.out); rintro e w' ⟨rfl, ⟨nd, rfl⟩⟩; refine ⟨_, rfl, ?_⟩) | ((with_reducible refine gate_callee (f := 65) rfl ?_); refine goesL_ (some 16) rfl rfl Tryd.func65 (by kernel_rfl) rfl #[.slice A0 l0.length c0] rfl (by (try simp only [List.map_toArray, List.map_cons, List.map_nil]); first | done | rfl | (simp only [List.length_drop, List.length_take]; rfl)) ?_; (with_reducible refine (perm_cycles.calls k _ _ l0 t164 _ ?side1 ?side2 A4.out).mono ?_); (case side1 => repeat (first | exact HR0.out | (with_reducible refine Kd.C_alloc ?_ _) | (with_reducible refine Kd.C_drewN ?_ _) | (with_reducible refine Kd.C_drew ?_))); (case side2 => exact HC0.out); rintro e w5 ⟨v165, rfl, ho0, hb⟩; refine ⟨_, rfl, ?_⟩; have n0_ := Aside0.mk (Kd.S_lower ho0 (below_size (by repeat (first | (with_reducible first | exact HB.out | apply below_alloc | apply pw_below_drewN | apply below_drew1) | exact HB.out)))); have n1_ := Aside0.mk (below_step (by repeat (first | (with_reducible first | exact HB.out | apply below_alloc | apply pw_below_drewN | apply below_drew1) | exact HB.out)) hb); clear HB; have HO166 := n0_; have HB := n1_; clear n0_ n1_; (try clear hb); (try clear hb2); (try clear hk); (try clear hi); (try clear ho0); obtain ⟨Ao6, co6, eo6⟩ := Kd.S_slice HO166.out; subst eo6))
    go_loopg [5, 18] k (fun kq v5 v18 w' => ∃ (x5_1 : ByteArray) (x18_1 : Int), v5 = .string x5_1 ∧ v18 = .int .i64 x18_1 ∧ Aside0 (perm_Format.l0 kq x5_1 t164 (t164.length : Int) x18_1 = some (r1, r2)) ∧ Aside0 (kq ≤ k) ∧ Aside0 (Kd.S (Kd.slice 3 (Kd.int .i64)) 22 w' w.heap.size (fun _ => True) (.slice Ao6 t164.length co6) t164) ∧ Aside0 (Below w.heap.size w w'))
    case atStart => exact ⟨((⟨#[]⟩ : ByteArray)), (0), (by first | rfl | (simp; done) | (simp [*]; done)), (by first | rfl | (simp; done) | (simp [*]; done)), H', ⟨Nat.le_refl _⟩, ⟨by (with_reducible repeat (first | apply Kd.S_alloc | apply Kd.S_drewN | apply Kd.S_drew)); exact HO166.out⟩, ⟨by repeat (first | (with_reducible first | exact HB.out | apply below_alloc | apply pw_below_drewN | apply below_drew1) | exact HB.out)⟩⟩
    case round =>
      clear H'
      try clear p2
      try clear c3
      try clear c3b0
      try clear c3b1
      try clear c4
      try clear c6
      obtain ⟨x5_1, x18_1, rfl, rfl, HA, HK1, HO_16, HB⟩ := hrel
      cases gk with
      | zero => exact absurd HA.out (by simp [perm_Format.l0])
      | succ k1 =>
        have H := HA.out
        clear HA
        simp only [perm_Format.l0] at H
        by_cases c7 : x18_1 < (t164.length : Int)
        · rw [if_pos c7] at H
          have c7b0 : decide (x18_1 < (t164.length : Int)) = true := decide_eq_true c7
          clear c7
          by_cases c8 : 0 ≤ x18_1
          · rw [if_pos c8] at H
            have c8b0 : decide (0 ≤ x18_1) = true := decide_eq_true c8
            clear c8
            by_cases c9 : x18_1 < (t164.length : Int)
            · rw [if_pos c9] at H
              have c9b0 : decide (x18_1 < (t164.length : Int)) = true := decide_eq_true c9
              clear c9
              have H' := Aside0.mk H
              clear H
              have p167 : 0 ≤ (x18_1 : Int) := of_decide_eq_true (by first | (with_reducible assumption) | assumption)
              have q167 : x18_1 < (t164.length : Int) := of_decide_eq_true (by first | (with_reducible assumption) | assumption)
              obtain ⟨ad167, A167_0, c167_0, e167, hx167_0, hl167_0, hi167_0⟩ := at_L1 (Kd.S_reads' HO_16.out).2.2 x18_1 p167 q167
              cases e167
              obtain ⟨ce167, hce167, hMe167, hcc167⟩ := Kd.S_get HO_16.out [] x18_1 p167 (by first | exact q167 | exact of_decide_eq_true (by first | (with_reducible assumption) | assumption) | (have e_ := (Kd.S_reads' HO_16.out).1; omega))
              obtain ⟨ve167_0, rfl, ge167_0⟩ := hMe167
              have hv167_0 := hcc167 0 _ rfl
              rw [Nat.add_zero, show ((Kd.slice 3 (Kd.int .i64))).sz = 1 from rfl, Nat.mul_one] at hv167_0
              replace hv167_0 := Option.some.inj (hv167_0.symm.trans hx167_0)
              rw [hv167_0] at ge167_0
              have HL167_0 := Aside0.mk (show Kd.R (Kd.int .i64) 3 _ _ _ _ (rd_L1 t164 x18_1) from ge167_0)
              clear hv167_0 ge167_0
              clear hcc167 hce167
              have HR167_0 := Aside0.mk hi167_0
              have HC167_0 := Aside0.mk hl167_0
              clear hi167_0 hl167_0
              replace p167 := eq_true p167
              replace q167 := eq_true q167
              go_wp2
              go_loopg [5, 24] k1 (fun kq v5 v24 w' => ∃ (x5_2 : ByteArray) (x24_2 : Int), v5 = .string x5_2 ∧ v24 = .int .i64 x24_2 ∧ Aside0 (perm_Format.l1 kq x5_2 t164 (t164.length : Int) x18_1 (rd_L1 t164 x18_1) ((rd_L1 t164 x18_1).length : Int) x24_2 = some (r1, r2)) ∧ Aside0 (kq ≤ k1) ∧ Aside0 (Kd.S (Kd.slice 3 (Kd.int .i64)) 22 w' w.heap.size (fun _ => True) (.slice (some ad167) t164.length co6) t164) ∧ Aside0 (Kd.C (Kd.int .i64) w' A167_0 (rd_L1 t164 x18_1).length (rd_L1 t164 x18_1)) ∧ Aside0 (Below w.heap.size w w'))
              case atStart => exact ⟨(x5_1), (0), (by first | rfl | (simp; done) | (simp [*]; done)), (by first | rfl | (simp; done) | (simp [*]; done)), H', ⟨Nat.le_refl _⟩, ⟨by (with_reducible repeat (first | apply Kd.S_alloc | apply Kd.S_drewN | apply Kd.S_drew)); exact HO_16.out⟩, ⟨by repeat (first | (with_reducible exact HR167_0.out) | (with_reducible refine Kd.C_alloc ?_ _) | (with_reducible refine Kd.C_drewN ?_ _) | (with_reducible refine Kd.C_drew ?_) | exact HR167_0.out)⟩, ⟨by repeat (first | (with_reducible first | exact HB.out | apply below_alloc | apply pw_below_drewN | apply below_drew1) | exact HB.out)⟩⟩
              case round =>
                clear H'
                try clear c1
                try clear p1
                try clear q1
                try clear hx1
                try clear p2
                try clear c3
                try clear c3b0
                try clear c3b1
                try clear c4
                try clear c6
                try clear c7
                try clear c7b0
                try clear c8
                try clear c8b0
                try clear c9
                try clear c9b0
                try clear hx167_0
                try clear p167
                try clear p2
                try clear q167
                obtain ⟨x5_2, x24_2, rfl, rfl, HA, HK2, HO_16, HR167_0, HB⟩ := hrel
                cases gk with
                | zero => exact absurd HA.out (by simp [perm_Format.l1])
                | succ k2 =>
                  have H := HA.out
                  clear HA
                  simp only [perm_Format.l1] at H
                  by_cases c10 : x24_2 < ((rd_L1 t164 x18_1).length : Int)
                  · rw [if_pos c10] at H
                    have c10b0 : decide (x24_2 < ((rd_L1 t164 x18_1).length : Int)) = true := decide_eq_true c10
                    clear c10
                    by_cases c11 : 0 ≤ x24_2
                    · rw [if_pos c11] at H
                      have c11b0 : decide (0 ≤ x24_2) = true := decide_eq_true c11
                      clear c11
                      by_cases c12 : x24_2 < ((rd_L1 t164 x18_1).length : Int)
                      · rw [if_pos c12] at H
                        have c12b0 : decide (x24_2 < ((rd_L1 t164 x18_1).length : Int)) = true := decide_eq_true c12
                        clear c12
                        by_cases c13 : x24_2 = 0
                        · rw [if_pos c13] at H
                          have c13b0 : (x24_2 == 0) = true := beq_iff_eq.mpr c13
                          have c13b1 : (x24_2 != 0) = false := bne_eq_false_iff_eq.mpr c13
                          clear c13
                          by_cases c14 : x5_2.size + 1 ≤ 9223372036854775807
                          · rw [if_pos c14] at H
                            have c14b0 := eq_true c14
                            have c14b1 : decide (x5_2.size + 1 ≤ 9223372036854775807) = true := decide_eq_true c14
                            try have c14b2 : (9223372036854775807 < x5_2.size + 1) = False := eq_false (Nat.not_lt.2 c14)
                            replace H := Option.bind_eq_some_iff.mp H
                            obtain ⟨t169, A150, H⟩ := H
                            replace H : (if (x5_2 ++ (⟨#[40]⟩ : ByteArray)).size + t169.size ≤ 9223372036854775807 then (perm_Format.l1 k2 ((x5_2 ++ (⟨#[40]⟩ : ByteArray)) ++ t169) t164 (t164.length : Int) x18_1 (rd_L1 t164 x18_1) ((rd_L1 t164 x18_1).length : Int) (wrap64 (x24_2 + 1))) else (none)) = some (r1, r2) := H
                            have A15 := Aside0.mk A150
                            clear A150
                            by_cases c16 : (x5_2 ++ (⟨#[40]⟩ : ByteArray)).size + t169.size ≤ 9223372036854775807
                            · rw [if_pos c16] at H
                              have c16b0 := eq_true c16
                              have c16b1 : decide ((x5_2 ++ (⟨#[40]⟩ : ByteArray)).size + t169.size ≤ 9223372036854775807) = true := decide_eq_true c16
                              try have c16b2 : (9223372036854775807 < (x5_2 ++ (⟨#[40]⟩ : ByteArray)).size + t169.size) = False := eq_false (Nat.not_lt.2 c16)
                              have c16b2d := c16b2
                              try simp only [ByteArray.size_append, show (⟨#[40]⟩ : ByteArray).size = 1 from rfl] at c16b2d
                              have H' := Aside0.mk H
                              clear H
                              have p168 : 0 ≤ (x24_2 : Int) := of_decide_eq_true (by first | (with_reducible assumption) | assumption)
                              have q168 : x24_2 < ((rd_L1 t164 x18_1).length : Int) := of_decide_eq_true (by first | (with_reducible assumption) | assumption)
                              obtain ⟨ad168, e168, hx168_0⟩ := Kd.at_int HR167_0.out x24_2 p168 q168
                              cases e168
                              try (replace hx168_0 := (HB.out.cell (World.block_lt_of_cell? w _ hx168_0)).trans hx168_0)
                              replace p168 := eq_true p168
                              replace q168 := eq_true q168
                              go_wp2_with (first | ((with_reducible refine gate_callee (f := 70) rfl ?_); refine goesL_ (some 37) rfl rfl Tryd.func70 (by kernel_rfl) rfl #[.int .i64 (rd (rd_L1 t164 x18_1) x24_2)] rfl (by (try simp only [List.map_toArray, List.map_cons, List.map_nil]); first | done | rfl | (simp only [List.length_drop, List.length_take]; rfl)) ?_; (with_reducible refine (strconv_Itoa_70.calls k2 (rd (rd_L1 t164 x18_1) x24_2) t169 _ A15.out).mono ?_); rintro e w17 ⟨rfl, hb⟩; refine ⟨_, rfl, ?_⟩; have n0_ := Aside0.mk (Kd.S_below (by (with_reducible repeat (first | apply Kd.S_alloc | apply Kd.S_drewN | apply Kd.S_drew)); exact HO_16.out) hb); have n1_ := Aside0.mk (Kd.C_below (by repeat (first | (with_reducible exact HR167_0.out) | (with_reducible refine Kd.C_alloc ?_ _) | (with_reducible refine Kd.C_drewN ?_ _) | (with_reducible refine Kd.C_drew ?_) | exact HR167_0.out)) hb); have n2_ := Aside0.mk (below_step (by repeat (first | (with_reducible first | exact HB.out | apply below_alloc | apply pw_below_drewN | apply below_drew1) | exact HB.out)) hb); clear HO_16; clear HR167_0; clear HB; have HO_16 := n0_; have HR167_0 := n1_; have HB := n2_; clear n0_ n1_ n2_; (try clear hb); (try clear hb2); (try clear hk); (try clear hi)))
                              go_roundg k2
                              case measure => have := HK1.out; have := HK2.out; omega
                              case rel => exact ⟨((x5_2 ++ (⟨#[40]⟩ : ByteArray)) ++ t169), (wrap64 (x24_2 + 1)), (by first | rfl | (simp; done) | (simp [*]; done)), (by first | rfl | (simp; done) | (simp [*]; done)), H', ⟨by have := HK1.out; have := HK2.out; omega⟩, ⟨by (with_reducible repeat (first | apply Kd.S_alloc | apply Kd.S_drewN | apply Kd.S_drew)); exact HO_16.out⟩, ⟨by repeat (first | (with_reducible exact HR167_0.out) | (with_reducible refine Kd.C_alloc ?_ _) | (with_reducible refine Kd.C_drewN ?_ _) | (with_reducible refine Kd.C_drew ?_) | exact HR167_0.out)⟩, ⟨by repeat (first | (with_reducible first | exact HB.out | apply below_alloc | apply pw_below_drewN | apply below_drew1) | exact HB.out)⟩⟩
                            · rw [if_neg c16] at H
                              exact absurd H (by simp)
                          · rw [if_neg c14] at H
                            exact absurd H (by simp)
                        · rw [if_neg c13] at H
                          have c13b0 : (x24_2 == 0) = false := beq_eq_false_iff_ne.mpr c13
                          have c13b1 : (x24_2 != 0) = true := bne_iff_ne.mpr c13
                          by_cases c18 : x5_2.size + 1 ≤ 9223372036854775807
                          · rw [if_pos c18] at H
                            have c18b0 := eq_true c18
                            have c18b1 : decide (x5_2.size + 1 ≤ 9223372036854775807) = true := decide_eq_true c18
                            try have c18b2 : (9223372036854775807 < x5_2.size + 1) = False := eq_false (Nat.not_lt.2 c18)
                            replace H := Option.bind_eq_some_iff.mp H
                            obtain ⟨t170, A190, H⟩ := H
                            replace H : (if (x5_2 ++ (⟨#[32]⟩ : ByteArray)).size + t170.size ≤ 9223372036854775807 then (perm_Format.l1 k2 ((x5_2 ++ (⟨#[32]⟩ : ByteArray)) ++ t170) t164 (t164.length : Int) x18_1 (rd_L1 t164 x18_1) ((rd_L1 t164 x18_1).length : Int) (wrap64 (x24_2 + 1))) else (none)) = some (r1, r2) := H
                            have A19 := Aside0.mk A190
                            clear A190
                            by_cases c20 : (x5_2 ++ (⟨#[32]⟩ : ByteArray)).size + t170.size ≤ 9223372036854775807
                            · rw [if_pos c20] at H
                              have c20b0 := eq_true c20
                              have c20b1 : decide ((x5_2 ++ (⟨#[32]⟩ : ByteArray)).size + t170.size ≤ 9223372036854775807) = true := decide_eq_true c20
                              try have c20b2 : (9223372036854775807 < (x5_2 ++ (⟨#[32]⟩ : ByteArray)).size + t170.size) = False := eq_false (Nat.not_lt.2 c20)
                              have c20b2d := c20b2
                              try simp only [ByteArray.size_append, show (⟨#[32]⟩ : ByteArray).size = 1 from rfl] at c20b2d
                              have H' := Aside0.mk H
                              clear H
                              have p168 : 0 ≤ (x24_2 : Int) := of_decide_eq_true (by first | (with_reducible assumption) | assumption)
                              have q168 : x24_2 < ((rd_L1 t164 x18_1).length : Int) := of_decide_eq_true (by first | (with_reducible assumption) | assumption)
                              obtain ⟨ad168, e168, hx168_0⟩ := Kd.at_int HR167_0.out x24_2 p168 q168
                              cases e168
                              try (replace hx168_0 := (HB.out.cell (World.block_lt_of_cell? w _ hx168_0)).trans hx168_0)
                              replace p168 := eq_true p168
                              replace q168 := eq_true q168
                              go_wp2_with (first | ((with_reducible refine gate_callee (f := 70) rfl ?_); refine goesL_ (some 37) rfl rfl Tryd.func70 (by kernel_rfl) rfl #[.int .i64 (rd (rd_L1 t164 x18_1) x24_2)] rfl (by (try simp only [List.map_toArray, List.map_cons, List.map_nil]); first | done | rfl | (simp only [List.length_drop, List.length_take]; rfl)) ?_; (with_reducible refine (strconv_Itoa_70.calls k2 (rd (rd_L1 t164 x18_1) x24_2) t170 _ A19.out).mono ?_); rintro e w21 ⟨rfl, hb⟩; refine ⟨_, rfl, ?_⟩; have n0_ := Aside0.mk (Kd.S_below (by (with_reducible repeat (first | apply Kd.S_alloc | apply Kd.S_drewN | apply Kd.S_drew)); exact HO_16.out) hb); have n1_ := Aside0.mk (Kd.C_below (by repeat (first | (with_reducible exact HR167_0.out) | (with_reducible refine Kd.C_alloc ?_ _) | (with_reducible refine Kd.C_drewN ?_ _) | (with_reducible refine Kd.C_drew ?_) | exact HR167_0.out)) hb); have n2_ := Aside0.mk (below_step (by repeat (first | (with_reducible first | exact HB.out | apply below_alloc | apply pw_below_drewN | apply below_drew1) | exact HB.out)) hb); clear HO_16; clear HR167_0; clear HB; have HO_16 := n0_; have HR167_0 := n1_; have HB := n2_; clear n0_ n1_ n2_; (try clear hb); (try clear hb2); (try clear hk); (try clear hi)))
                              go_roundg k2
                              case measure => have := HK1.out; have := HK2.out; omega
                              case rel => exact ⟨((x5_2 ++ (⟨#[32]⟩ : ByteArray)) ++ t170), (wrap64 (x24_2 + 1)), (by first | rfl | (simp; done) | (simp [*]; done)), (by first | rfl | (simp; done) | (simp [*]; done)), H', ⟨by have := HK1.out; have := HK2.out; omega⟩, ⟨by (with_reducible repeat (first | apply Kd.S_alloc | apply Kd.S_drewN | apply Kd.S_drew)); exact HO_16.out⟩, ⟨by repeat (first | (with_reducible exact HR167_0.out) | (with_reducible refine Kd.C_alloc ?_ _) | (with_reducible refine Kd.C_drewN ?_ _) | (with_reducible refine Kd.C_drew ?_) | exact HR167_0.out)⟩, ⟨by repeat (first | (with_reducible first | exact HB.out | apply below_alloc | apply pw_below_drewN | apply below_drew1) | exact HB.out)⟩⟩
                            · rw [if_neg c20] at H
                              exact absurd H (by simp)
                          · rw [if_neg c18] at H
                            exact absurd H (by simp)
                      · rw [if_neg c12] at H
                        exact absurd H (by simp)
                    · rw [if_neg c11] at H
                      exact absurd H (by simp)
                  · rw [if_neg c10] at H
                    have c10b0 : decide (x24_2 < ((rd_L1 t164 x18_1).length : Int)) = false := decide_eq_false c10
                    clear c10
                    by_cases c22 : x5_2.size + 1 ≤ 9223372036854775807
                    · rw [if_pos c22] at H
                      have c22b0 := eq_true c22
                      have c22b1 : decide (x5_2.size + 1 ≤ 9223372036854775807) = true := decide_eq_true c22
                      try have c22b2 : (9223372036854775807 < x5_2.size + 1) = False := eq_false (Nat.not_lt.2 c22)
                      have H' := Aside0.mk H
                      clear H
                      go_wp2
                      go_roundg k2
                      case measure => have := HK1.out; have := HK2.out; omega
                      case rel => exact ⟨(x5_2 ++ (⟨#[41]⟩ : ByteArray)), (wrap64 (x18_1 + 1)), (by first | rfl | (simp; done) | (simp [*]; done)), (by first | rfl | (simp; done) | (simp [*]; done)), H', ⟨by have := HK1.out; have := HK2.out; omega⟩, ⟨by (with_reducible repeat (first | apply Kd.S_alloc | apply Kd.S_drewN | apply Kd.S_drew)); exact HO_16.out⟩, ⟨by repeat (first | (with_reducible first | exact HB.out | apply below_alloc | apply pw_below_drewN | apply below_drew1) | exact HB.out)⟩⟩
                    · rw [if_neg c22] at H
                      exact absurd H (by simp)
            · rw [if_neg c9] at H
              exact absurd H (by simp)
          · rw [if_neg c8] at H
            exact absurd H (by simp)
        · rw [if_neg c7] at H
          have c7b0 : decide (x18_1 < (t164.length : Int)) = false := decide_eq_false c7
          clear c7
          by_cases c23 : x5_1.toList = ([] : List UInt8)
          · rw [if_pos c23] at H
            have c23b0 : (x5_1.toList == ([] : List UInt8)) = true := beq_iff_eq.mpr c23
            have c23b1 : (x5_1.toList != ([] : List UInt8)) = false := bne_eq_false_iff_eq.mpr c23
            clear c23
            simp only [Option.some.injEq, Prod.mk.injEq] at H
            obtain ⟨rfl, rfl⟩ := H
            go_wp2
            go_ret2
            exact ⟨by first | rfl | (simp [errW_none, errW_some] <;> rfl) | (simp [*, errW_none, errW_some] <;> rfl), by repeat (first | (with_reducible first | exact HB.out | apply below_alloc | apply pw_below_drewN | apply below_drew1) | exact HB.out)⟩
          · rw [if_neg c23] at H
            have c23b0 : (x5_1.toList == ([] : List UInt8)) = false := beq_eq_false_iff_ne.mpr c23
            have c23b1 : (x5_1.toList != ([] : List UInt8)) = true := bne_iff_ne.mpr c23
            simp only [Option.some.injEq, Prod.mk.injEq] at H
            obtain ⟨rfl, rfl⟩ := H
            go_wp2
            go_ret2
            exact ⟨by first | rfl | (simp [errW_none, errW_some] <;> rfl) | (simp [*, errW_none, errW_some] <;> rfl), by repeat (first | (with_reducible first | exact HB.out | apply below_alloc | apply pw_below_drewN | apply below_drew1) | exact HB.out)⟩
  · rw [if_neg c3] at H
    have c3b0 : (t163 == 0) = false := beq_eq_false_iff_ne.mpr c3
    have c3b1 : (t163 != 0) = true := bne_iff_ne.mpr c3
    simp only [Option.some.injEq, Prod.mk.injEq] at H
    obtain ⟨rfl, rfl⟩ := H
    go_enter Tryd.func41, Tryd.ntmps41
    go_wp2_with (first | ((with_reducible refine gate_callee (f := 48) rfl ?_); refine goesL_ (some 11) rfl rfl Tryd.func48 (by kernel_rfl) rfl #[.slice A0 l0.length c0] rfl (by (try simp only [List.map_toArray, List.map_cons, List.map_nil]); first | done | rfl | (simp only [List.length_drop, List.length_take]; rfl)) ?_; (with_reducible refine (perm_Check.calls k _ _ l0 t163 _ ?side1 ?side2 A2.out).mono ?_); (case side1 => repeat (first | exact HR0.out | (with_reducible refine Kd.C_alloc ?_ _) | (with_reducible refine Kd.C_drewN ?_ _) | (with_reducible refine Kd.C_drew ?_))); (case side2 => exact HC0.out); rintro e w' ⟨rfl, ⟨nd, rfl⟩⟩; refine ⟨_, rfl, ?_⟩))
    go_ret2
    exact ⟨by first | rfl | (simp [errW_none, errW_some] <;> rfl) | (simp [*, errW_none, errW_some] <;> rfl), by repeat (first | (with_reducible first | exact HB.out | apply below_alloc | apply pw_below_drewN | apply below_drew1) | exact HB.out)⟩

end Go.Proofs.YtoaalfpfklchfaaDoor.PPermSplits
