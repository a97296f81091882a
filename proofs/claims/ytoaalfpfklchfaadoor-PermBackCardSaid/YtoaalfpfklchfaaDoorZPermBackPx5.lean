-- Printed by wip/tools/mk.py of this repo (the kit's print with turns made in memory).
import Derived.Test.YtoaalfpfklchfaaDoorZPermBackPx0
import Derived.Test.YtoaalfpfklchfaaDoorZPermBackPx4
namespace Go.Proofs.YtoaalfpfklchfaaDoor.PPermBack
open Go.RowKit Go.Proofs.YtoaalfpfklchfaaDoorW.PrintWords Go.Proofs.YtoaalfpfklchfaaDoorW.PrintLast Go.Proofs.YtoaalfpfklchfaaDoorW.PrintMore
attribute [local go_sem] max2_int min2_int max_two min_two max_three min_three max_four min_four   -- for this text's walks alone
set_option linter.unusedVariables false
set_option linter.unusedSimpArgs false

/-! ### perm_FromCycles: function 20 -/
mutual
def perm_FromCycles.l0 : Nat → Int → List (List Int) → List Bool → List (List Int) → Int → Int → Option (List Int × Int)
  | 0, _, _, _, _, _, _ => none
  | k + 1, x0, x1, x7, x24, x25, x26 => if x26 < x25 then (if 0 ≤ x26 then (if x26 < (x24.length : Int) then (perm_FromCycles.l1 k x0 x1 x7 x24 x25 x26 (rd_L1 x24 x26) ((rd_L1 x24 x26).length : Int) 0) else (none)) else (none)) else ((perm_identity.f k x0).bind fun t212 => (perm_FromCycles.l2 k t212 x1 (x1.length : Int) 0))
def perm_FromCycles.l1 : Nat → Int → List (List Int) → List Bool → List (List Int) → Int → Int → List Int → Int → Int → Option (List Int × Int)
  | 0, _, _, _, _, _, _, _, _, _ => none
  | k + 1, x0, x1, x7, x24, x25, x26, x30, x31, x32 => if x32 < x31 then (if 0 ≤ x32 then (if x32 < (x30.length : Int) then (if (rd x30 x32) < 0 then (perm_FromCycles.j2 k x0 x1 x7 (rd x30 x32) x24 x25 x26 x30 x31 x32 true) else (perm_FromCycles.j2 k x0 x1 x7 (rd x30 x32) x24 x25 x26 x30 x31 x32 (decide ((rd x30 x32) ≥ x0)))) else (none)) else (none)) else (perm_FromCycles.l0 k x0 x1 x7 x24 x25 (wrap64 (x26 + 1)))
def perm_FromCycles.j2 : Nat → Int → List (List Int) → List Bool → Int → List (List Int) → Int → Int → List Int → Int → Int → Bool → Option (List Int × Int)
  | 0, _, _, _, _, _, _, _, _, _, _, _ => none
  | k + 1, x0, x1, x7, x11, x24, x25, x26, x30, x31, x32, x36 => if x36 = true then (some (([] : List Int), 3)) else (if 0 ≤ x11 then (if x11 < (x7.length : Int) then (if rdOf false x7 x11 = true then (some (([] : List Int), 24)) else (perm_FromCycles.l1 k x0 x1 (x7.set (x11 : Int).toNat true) x24 x25 x26 x30 x31 (wrap64 (x32 + 1)))) else (none)) else (none))
def perm_FromCycles.l2 : Nat → List Int → List (List Int) → Int → Int → Option (List Int × Int)
  | 0, _, _, _, _ => none
  | k + 1, x12, x56, x57, x58 => if x58 < x57 then (if 0 ≤ x58 then (if x58 < (x56.length : Int) then (perm_FromCycles.l3 k x12 (rd_L1 x56 x58) x56 x57 x58 (rd_L1 x56 x58) ((rd_L1 x56 x58).length : Int) 0) else (none)) else (none)) else (some (x12, 0))
def perm_FromCycles.l3 : Nat → List Int → List Int → List (List Int) → Int → Int → List Int → Int → Int → Option (List Int × Int)
  | 0, _, _, _, _, _, _, _, _ => none
  | k + 1, x12, x14, x56, x57, x58, x62, x63, x64 => if x64 < x63 then (if 0 ≤ x64 then (if x64 < (x62.length : Int) then (if (x14.length : Int) = 0 then (none) else (if 0 ≤ (Int.tmod (wrap64 (x64 + 1)) (x14.length : Int)) then (if (Int.tmod (wrap64 (x64 + 1)) (x14.length : Int)) < (x14.length : Int) then (if 0 ≤ (rd x62 x64) then (if (rd x62 x64) < (x12.length : Int) then (perm_FromCycles.l3 k (x12.set ((rd x62 x64) : Int).toNat (rd x14 (Int.tmod (wrap64 (x64 + 1)) (x14.length : Int)))) x14 x56 x57 x58 x62 x63 (wrap64 (x64 + 1))) else (none)) else (none)) else (none)) else (none))) else (none)) else (none)) else (perm_FromCycles.l2 k x12 x56 x57 (wrap64 (x58 + 1)))
end
def perm_FromCycles.f (k : Nat) (a0 : Int) (l1 : List (List Int)) : Option (List Int × Int) := (perm_checkDegree.f a0).bind fun t204 => (if t204 = 0 then (if 0 ≤ a0 then (if (a0 : Int).toNat ≤ 281474976710656 then (perm_FromCycles.l0 k a0 l1 (List.replicate (a0 : Int).toNat false) l1 (l1.length : Int) 0) else (none)) else (none)) else (some (([] : List Int), t204)))
theorem perm_FromCycles.mono_l : ∀ k, (∀ y0 y1 y2 y3 y4 y5, LeO (perm_FromCycles.l0 k y0 y1 y2 y3 y4 y5) (perm_FromCycles.l0 (k + 1) y0 y1 y2 y3 y4 y5)) ∧ (∀ y0 y1 y2 y3 y4 y5 y6 y7 y8, LeO (perm_FromCycles.l1 k y0 y1 y2 y3 y4 y5 y6 y7 y8) (perm_FromCycles.l1 (k + 1) y0 y1 y2 y3 y4 y5 y6 y7 y8)) ∧ (∀ y0 y1 y2 y3 y4 y5 y6 y7 y8 y9 y10, LeO (perm_FromCycles.j2 k y0 y1 y2 y3 y4 y5 y6 y7 y8 y9 y10) (perm_FromCycles.j2 (k + 1) y0 y1 y2 y3 y4 y5 y6 y7 y8 y9 y10)) ∧ (∀ y0 y1 y2 y3, LeO (perm_FromCycles.l2 k y0 y1 y2 y3) (perm_FromCycles.l2 (k + 1) y0 y1 y2 y3)) ∧ (∀ y0 y1 y2 y3 y4 y5 y6 y7, LeO (perm_FromCycles.l3 k y0 y1 y2 y3 y4 y5 y6 y7) (perm_FromCycles.l3 (k + 1) y0 y1 y2 y3 y4 y5 y6 y7))
  | 0 => ⟨fun _ _ _ _ _ _ r h => by simp [perm_FromCycles.l0] at h, fun _ _ _ _ _ _ _ _ _ r h => by simp [perm_FromCycles.l1] at h, fun _ _ _ _ _ _ _ _ _ _ _ r h => by simp [perm_FromCycles.j2] at h, fun _ _ _ _ r h => by simp [perm_FromCycles.l2] at h, fun _ _ _ _ _ _ _ _ r h => by simp [perm_FromCycles.l3] at h⟩
  | k + 1 => by
    obtain ⟨ih0, ih1, ih2, ih3, ih4⟩ := perm_FromCycles.mono_l k
    refine ⟨?_, ?_, ?_, ?_, ?_⟩
    · intro y0 y1 y2 y3 y4 y5
      unfold perm_FromCycles.l0
      repeat' first
      | (with_reducible exact ih0 _ _ _ _ _ _)
      | (with_reducible exact ih1 _ _ _ _ _ _ _ _ _)
      | (with_reducible exact ih2 _ _ _ _ _ _ _ _ _ _ _)
      | (with_reducible exact ih3 _ _ _ _)
      | (with_reducible exact ih4 _ _ _ _ _ _ _ _)
      | (with_reducible exact perm_identity.mono _ _)
      | (with_reducible exact LeO.refl _)
      | (with_reducible exact LeO.none _)
      | (with_reducible refine LeO.ite ?_ ?_)
      | (with_reducible refine LeO.bind ?_ (fun _ => ?_))
      | exact ih0 _ _ _ _ _ _
      | exact ih1 _ _ _ _ _ _ _ _ _
      | exact ih2 _ _ _ _ _ _ _ _ _ _ _
      | exact ih3 _ _ _ _
      | exact ih4 _ _ _ _ _ _ _ _
      | exact perm_identity.mono _ _
      | exact LeO.none _
      | refine LeO.ite ?_ ?_
      | refine LeO.bind ?_ (fun _ => ?_)
    · intro y0 y1 y2 y3 y4 y5 y6 y7 y8
      unfold perm_FromCycles.l1
      repeat' first
      | (with_reducible exact ih0 _ _ _ _ _ _)
      | (with_reducible exact ih1 _ _ _ _ _ _ _ _ _)
      | (with_reducible exact ih2 _ _ _ _ _ _ _ _ _ _ _)
      | (with_reducible exact ih3 _ _ _ _)
      | (with_reducible exact ih4 _ _ _ _ _ _ _ _)
      | (with_reducible exact perm_identity.mono _ _)
      | (with_reducible exact LeO.refl _)
      | (with_reducible exact LeO.none _)
      | (with_reducible refine LeO.ite ?_ ?_)
      | (with_reducible refine LeO.bind ?_ (fun _ => ?_))
      | exact ih0 _ _ _ _ _ _
      | exact ih1 _ _ _ _ _ _ _ _ _
      | exact ih2 _ _ _ _ _ _ _ _ _ _ _
      | exact ih3 _ _ _ _
      | exact ih4 _ _ _ _ _ _ _ _
      | exact perm_identity.mono _ _
      | exact LeO.none _
      | refine LeO.ite ?_ ?_
      | refine LeO.bind ?_ (fun _ => ?_)
    · intro y0 y1 y2 y3 y4 y5 y6 y7 y8 y9 y10
      unfold perm_FromCycles.j2
      repeat' first
      | (with_reducible exact ih0 _ _ _ _ _ _)
      | (with_reducible exact ih1 _ _ _ _ _ _ _ _ _)
      | (with_reducible exact ih2 _ _ _ _ _ _ _ _ _ _ _)
      | (with_reducible exact ih3 _ _ _ _)
      | (with_reducible exact ih4 _ _ _ _ _ _ _ _)
      | (with_reducible exact perm_identity.mono _ _)
      | (with_reducible exact LeO.refl _)
      | (with_reducible exact LeO.none _)
      | (with_reducible refine LeO.ite ?_ ?_)
      | (with_reducible refine LeO.bind ?_ (fun _ => ?_))
      | exact ih0 _ _ _ _ _ _
      | exact ih1 _ _ _ _ _ _ _ _ _
      | exact ih2 _ _ _ _ _ _ _ _ _ _ _
      | exact ih3 _ _ _ _
      | exact ih4 _ _ _ _ _ _ _ _
      | exact perm_identity.mono _ _
      | exact LeO.none _
      | refine LeO.ite ?_ ?_
      | refine LeO.bind ?_ (fun _ => ?_)
    · intro y0 y1 y2 y3
      unfold perm_FromCycles.l2
      repeat' first
      | (with_reducible exact ih0 _ _ _ _ _ _)
      | (with_reducible exact ih1 _ _ _ _ _ _ _ _ _)
      | (with_reducible exact ih2 _ _ _ _ _ _ _ _ _ _ _)
      | (with_reducible exact ih3 _ _ _ _)
      | (with_reducible exact ih4 _ _ _ _ _ _ _ _)
      | (with_reducible exact perm_identity.mono _ _)
      | (with_reducible exact LeO.refl _)
      | (with_reducible exact LeO.none _)
      | (with_reducible refine LeO.ite ?_ ?_)
      | (with_reducible refine LeO.bind ?_ (fun _ => ?_))
      | exact ih0 _ _ _ _ _ _
      | exact ih1 _ _ _ _ _ _ _ _ _
      | exact ih2 _ _ _ _ _ _ _ _ _ _ _
      | exact ih3 _ _ _ _
      | exact ih4 _ _ _ _ _ _ _ _
      | exact perm_identity.mono _ _
      | exact LeO.none _
      | refine LeO.ite ?_ ?_
      | refine LeO.bind ?_ (fun _ => ?_)
    · intro y0 y1 y2 y3 y4 y5 y6 y7
      unfold perm_FromCycles.l3
      repeat' first
      | (with_reducible exact ih0 _ _ _ _ _ _)
      | (with_reducible exact ih1 _ _ _ _ _ _ _ _ _)
      | (with_reducible exact ih2 _ _ _ _ _ _ _ _ _ _ _)
      | (with_reducible exact ih3 _ _ _ _)
      | (with_reducible exact ih4 _ _ _ _ _ _ _ _)
      | (with_reducible exact perm_identity.mono _ _)
      | (with_reducible exact LeO.refl _)
      | (with_reducible exact LeO.none _)
      | (with_reducible refine LeO.ite ?_ ?_)
      | (with_reducible refine LeO.bind ?_ (fun _ => ?_))
      | exact ih0 _ _ _ _ _ _
      | exact ih1 _ _ _ _ _ _ _ _ _
      | exact ih2 _ _ _ _ _ _ _ _ _ _ _
      | exact ih3 _ _ _ _
      | exact ih4 _ _ _ _ _ _ _ _
      | exact perm_identity.mono _ _
      | exact LeO.none _
      | refine LeO.ite ?_ ?_
      | refine LeO.bind ?_ (fun _ => ?_)
theorem perm_FromCycles.mono : ∀ a0 a1 k, LeO (perm_FromCycles.f k a0 a1) (perm_FromCycles.f (k + 1) a0 a1) := by
  intro a0 a1 k
  obtain ⟨ih0, ih1, ih2, ih3, ih4⟩ := perm_FromCycles.mono_l k
  unfold perm_FromCycles.f
  repeat' first
      | (with_reducible exact ih0 _ _ _ _ _ _)
      | (with_reducible exact ih1 _ _ _ _ _ _ _ _ _)
      | (with_reducible exact ih2 _ _ _ _ _ _ _ _ _ _ _)
      | (with_reducible exact ih3 _ _ _ _)
      | (with_reducible exact ih4 _ _ _ _ _ _ _ _)
      | (with_reducible exact perm_identity.mono _ _)
      | (with_reducible exact LeO.refl _)
      | (with_reducible exact LeO.none _)
      | (with_reducible refine LeO.ite ?_ ?_)
      | (with_reducible refine LeO.bind ?_ (fun _ => ?_))
      | exact ih0 _ _ _ _ _ _
      | exact ih1 _ _ _ _ _ _ _ _ _
      | exact ih2 _ _ _ _ _ _ _ _ _ _ _
      | exact ih3 _ _ _ _
      | exact ih4 _ _ _ _ _ _ _ _
      | exact perm_identity.mono _ _
      | exact LeO.none _
      | refine LeO.ite ?_ ?_
      | refine LeO.bind ?_ (fun _ => ?_)
set_option maxHeartbeats 8000000 in
set_option maxRecDepth 100000 in
theorem perm_FromCycles.calls (k : Nat) (a0 : Int) (A1 : Option Addr) (c1 : Nat) (l1 : List (List Int)) (r1 : List Int) (r2 : Int) (w : World) (hr1 : Kd.C (Kd.slice 3 (Kd.int .i64)) w A1 l1.length l1) (hc1 : l1.length ≤ c1) (h : perm_FromCycles.f k a0 l1 = some (r1, r2)) :
    Calls Tryd.prog 20 #[.int .i64 a0, .slice A1 l1.length c1] w fun e w' => ∃ v0_ : Value, e = .returned (.tuple #[v0_, .int .i64 r2]) ∧ Kd.R (Kd.int .i64) 3 w' w.heap.size (fun _ => True) v0_ r1 ∧ Below w.heap.size w w' := by
  have HR1 := Aside0.mk hr1
  have HC1 := Aside0.mk hc1
  clear hr1 hc1
  have HB := Aside0.mk (Below.refl w.heap.size w)
  have H : ((perm_checkDegree.f a0).bind fun t204 => (if t204 = 0 then (if 0 ≤ a0 then (if (a0 : Int).toNat ≤ 281474976710656 then (perm_FromCycles.l0 k a0 l1 (List.replicate (a0 : Int).toNat false) l1 (l1.length : Int) 0) else (none)) else (none)) else (some (([] : List Int), t204)))) = some (r1, r2) := h
  clear h
  replace H := Option.bind_eq_some_iff.mp H
  obtain ⟨t204, A30, H⟩ := H
  replace H : (if t204 = 0 then (if 0 ≤ a0 then (if (a0 : Int).toNat ≤ 281474976710656 then (perm_FromCycles.l0 k a0 l1 (List.replicate (a0 : Int).toNat false) l1 (l1.length : Int) 0) else (none)) else (none)) else (some (([] : List Int), t204))) = some (r1, r2) := H
  have A3 := Aside0.mk A30
  clear A30
  by_cases c4 : t204 = 0
  · rw [if_pos c4] at H
    have c4b0 : (t204 == 0) = true := beq_iff_eq.mpr c4
    have c4b1 : (t204 != 0) = false := bne_eq_false_iff_eq.mpr c4
    clear c4
    by_cases c5 : 0 ≤ a0
    · rw [if_pos c5] at H
      have c5b0 := eq_true c5
      have c5b1 : decide (0 ≤ a0) = true := decide_eq_true c5
      clear c5
      by_cases c6 : (a0 : Int).toNat ≤ 281474976710656
      · rw [if_pos c6] at H
        have c6b0 := eq_true c6
        have c6b1 : decide ((a0 : Int).toNat ≤ 281474976710656) = true := decide_eq_true c6
        clear c6
        obtain ⟨y205, hy205⟩ : ∃ y_ : List Bool, y_ = (List.replicate (a0 : Int).toNat false) := ⟨_, rfl⟩
        replace H : (perm_FromCycles.l0 k a0 l1 y205 l1 (l1.length : Int) 0) = some (r1, r2) := by first | (rw [hy205]; with_reducible exact H) | (have H2_ := (Option.bind_some _ _).symm.trans H; rw [hy205]; with_reducible exact H2_) | (have H2_ := (Option.bind_some _ _).symm.trans H; with_reducible exact H2_) | with_reducible exact H | (rw [hy205]; exact H) | exact H
        have Ny205 := Aside0.mk hy205
        clear hy205
        have H' := Aside0.mk H
        clear H
        go_enter Tryd.func20, Tryd.ntmps20
        go_wp2_with (first | ((with_reducible refine gate_callee (f := 61) rfl ?_); refine goesL_ (some 18) rfl rfl Tryd.func61 (by kernel_rfl) rfl #[.int .i64 a0] rfl (by (try simp only [List.map_toArray, List.map_cons, List.map_nil]); first | done | rfl | (simp only [List.length_drop, List.length_take]; rfl)) ?_; (with_reducible refine (perm_checkDegree.calls a0 t204 _ A3.out).mono ?_); rintro e w' ⟨rfl, ⟨nd, rfl⟩⟩; refine ⟨_, rfl, ?_⟩) | ((with_reducible refine gate_dst (N := 23) rfl ?_); refine Kd.R_make Kd.bool _ 4 rfl (N := 23) rfl 75 _ _ rfl a0 rfl rfl Tryd.underlying75 (.bool false) 1 info4 rfl (by decide) (by omega) false (ok := fun _ => True) (okp := fun _ => True) rfl (fun _ hk => hk) trivial (of_decide_eq_true (by first | (with_reducible assumption) | assumption)) (Nat.le_trans (Nat.mul_le_mul_right _ (of_decide_eq_true (by first | (with_reducible assumption) | assumption) : a0.toNat ≤ 281474976710656)) (by omega)) (Below.refl _ _) (Nat.le_refl _) ?_; intro v206 w7 ho8 hb hg_ hnew_; clear hg_ hnew_; (first | rw [← Ny205.out] at ho8 | (simp only [Int.reduceToNat] at ho8; rw [← Ny205.out] at ho8)); have n0_ := Aside0.mk (Kd.R_lower ho8 (below_size (by repeat (first | (with_reducible first | exact HB.out | apply below_alloc | apply pw_below_drewN | apply below_drew1) | exact HB.out)))); have n1_ := Aside0.mk (below_step (by repeat (first | (with_reducible first | exact HB.out | apply below_alloc | apply pw_below_drewN | apply below_drew1) | exact HB.out)) hb); clear HB; have HO207 := n0_; have HB := n1_; clear n0_ n1_; clear hb ho8))
        go_loopg [26] k (fun kq v26 w' => ∃ (x7_1 : List Bool) (x26_1 : Int), v26 = .int .i64 x26_1 ∧ Aside0 (perm_FromCycles.l0 kq a0 l1 x7_1 l1 (l1.length : Int) x26_1 = some (r1, r2)) ∧ Aside0 (kq ≤ k) ∧ Aside0 (Kd.R Kd.bool 4 w' w.heap.size (fun _ => True) v206 x7_1) ∧ Aside0 (Below w.heap.size w w'))
        case atStart => exact ⟨(y205), (0), (by first | rfl | (simp; done) | (simp [*]; done)), H', ⟨Nat.le_refl _⟩, ⟨by (with_reducible repeat (first | apply Kd.R_alloc | apply Kd.R_drewN | apply Kd.R_drew)); exact HO207.out⟩, ⟨by repeat (first | (with_reducible first | exact HB.out | apply below_alloc | apply pw_below_drewN | apply below_drew1) | exact HB.out)⟩⟩
        case round =>
          clear H'
          try clear c1
          try clear c2
          try clear p2
          try clear c4
          try clear c4b0
          try clear c4b1
          try clear c5
          try clear c5b0
          try clear c5b1
          try clear c6
          try clear c6b0
          try clear c6b1
          obtain ⟨x7_1, x26_1, rfl, HA, HK1, HO_7, HB⟩ := hrel
          cases gk with
          | zero => exact absurd HA.out (by simp [perm_FromCycles.l0])
          | succ k1 =>
            have H := HA.out
            clear HA
            simp only [perm_FromCycles.l0] at H
            by_cases c9 : x26_1 < (l1.length : Int)
            · rw [if_pos c9] at H
              have c9b0 : decide (x26_1 < (l1.length : Int)) = true := decide_eq_true c9
              clear c9
              by_cases c10 : 0 ≤ x26_1
              · rw [if_pos c10] at H
                have c10b0 : decide (0 ≤ x26_1) = true := decide_eq_true c10
                clear c10
                by_cases c11 : x26_1 < (l1.length : Int)
                · rw [if_pos c11] at H
                  have c11b0 : decide (x26_1 < (l1.length : Int)) = true := decide_eq_true c11
                  clear c11
                  have H' := Aside0.mk H
                  clear H
                  have p208 : 0 ≤ (x26_1 : Int) := of_decide_eq_true (by first | (with_reducible assumption) | assumption)
                  have q208 : x26_1 < (l1.length : Int) := of_decide_eq_true (by first | (with_reducible assumption) | assumption)
                  obtain ⟨ad208, A208_0, c208_0, e208, hx208_0, hl208_0, hi208_0⟩ := at_L1 HR1.out x26_1 p208 q208
                  cases e208
                  try (replace hx208_0 := (HB.out.cell (World.block_lt_of_cell? w _ hx208_0)).trans hx208_0)
                  have HR208_0 := Aside0.mk hi208_0
                  have HC208_0 := Aside0.mk hl208_0
                  clear hi208_0 hl208_0
                  replace p208 := eq_true p208
                  replace q208 := eq_true q208
                  go_wp2
                  go_loopg [32] k1 (fun kq v32 w' => ∃ (x7_2 : List Bool) (x32_2 : Int), v32 = .int .i64 x32_2 ∧ Aside0 (perm_FromCycles.l1 kq a0 l1 x7_2 l1 (l1.length : Int) x26_1 (rd_L1 l1 x26_1) ((rd_L1 l1 x26_1).length : Int) x32_2 = some (r1, r2)) ∧ Aside0 (kq ≤ k1) ∧ Aside0 (Kd.R Kd.bool 4 w' w.heap.size (fun _ => True) v206 x7_2) ∧ Aside0 (Below w.heap.size w w'))
                  case atStart => exact ⟨(x7_1), (0), (by first | rfl | (simp; done) | (simp [*]; done)), H', ⟨Nat.le_refl _⟩, ⟨by (with_reducible repeat (first | apply Kd.R_alloc | apply Kd.R_drewN | apply Kd.R_drew)); exact HO_7.out⟩, ⟨by repeat (first | (with_reducible first | exact HB.out | apply below_alloc | apply pw_below_drewN | apply below_drew1) | exact HB.out)⟩⟩
                  case round =>
                    clear H'
                    try clear c1
                    try clear c2
                    try clear p2
                    try clear q2
                    try clear hx2
                    try clear c4
                    try clear c4b0
                    try clear c4b1
                    try clear c5
                    try clear c5b0
                    try clear c5b1
                    try clear c6
                    try clear c6b0
                    try clear c6b1
                    try clear c9
                    try clear c9b0
                    try clear c10
                    try clear c10b0
                    try clear c11
                    try clear c11b0
                    try clear hx208_0
                    try clear p2
                    try clear p208
                    try clear q208
                    obtain ⟨x7_2, x32_2, rfl, HA, HK2, HO_7, HB⟩ := hrel
                    cases gk with
                    | zero => exact absurd HA.out (by simp [perm_FromCycles.l1])
                    | succ k2 =>
                      have H := HA.out
                      clear HA
                      simp only [perm_FromCycles.l1] at H
                      by_cases c12 : x32_2 < ((rd_L1 l1 x26_1).length : Int)
                      · rw [if_pos c12] at H
                        have c12b0 : decide (x32_2 < ((rd_L1 l1 x26_1).length : Int)) = true := decide_eq_true c12
                        clear c12
                        by_cases c13 : 0 ≤ x32_2
                        · rw [if_pos c13] at H
                          have c13b0 : decide (0 ≤ x32_2) = true := decide_eq_true c13
                          clear c13
                          by_cases c14 : x32_2 < ((rd_L1 l1 x26_1).length : Int)
                          · rw [if_pos c14] at H
                            have c14b0 : decide (x32_2 < ((rd_L1 l1 x26_1).length : Int)) = true := decide_eq_true c14
                            clear c14
                            have HC15 := Aside0.mk H
                            clear H
                            have p209 : 0 ≤ (x32_2 : Int) := of_decide_eq_true (by first | (with_reducible assumption) | assumption)
                            have q209 : x32_2 < ((rd_L1 l1 x26_1).length : Int) := of_decide_eq_true (by first | (with_reducible assumption) | assumption)
                            obtain ⟨ad209, e209, hx209_0⟩ := Kd.at_int HR208_0.out x32_2 p209 q209
                            cases e209
                            try (replace hx209_0 := (HB.out.cell (World.block_lt_of_cell? w _ hx209_0)).trans hx209_0)
                            replace p209 := eq_true p209
                            replace q209 := eq_true q209
                            go_upto_region 11 with (fail)
                            go_cut [36] (fun v36 wc => ∃ (kq : Nat) (x36_14 : Bool), v36 = .bool x36_14 ∧ Aside0 (perm_FromCycles.j2 kq a0 l1 x7_2 (rd (rd_L1 l1 x26_1) x32_2) l1 (l1.length : Int) x26_1 (rd_L1 l1 x26_1) ((rd_L1 l1 x26_1).length : Int) x32_2 x36_14 = some (r1, r2)) ∧ Aside0 (kq ≤ k2) ∧ Aside0 (Kd.R Kd.bool 4 wc w.heap.size (fun _ => True) v206 x7_2) ∧ Aside0 (Below w.heap.size w wc))
                            case first =>
                              have H := HC15.out
                              clear HC15
                              by_cases c16 : (rd (rd_L1 l1 x26_1) x32_2) < 0
                              · rw [if_pos c16] at H
                                have c16b0 : decide ((rd (rd_L1 l1 x26_1) x32_2) < 0) = true := decide_eq_true c16
                                clear c16
                                (first | rw [c16b0] | (simp only [i64_w, i32_w]; rw [c16b0]) | skip)
                                have H' := Aside0.mk H
                                clear H
                                go_wp2
                                go_meet
                                case rel => exact ⟨_, (true), (by first | rfl | (simp; done) | (simp [*]; done)), H', ⟨by have := HK1.out; have := HK2.out; first | omega | exact Nat.le_refl _⟩, ⟨by (with_reducible repeat (first | apply Kd.R_alloc | apply Kd.R_drewN | apply Kd.R_drew)); exact HO_7.out⟩, ⟨by repeat (first | (with_reducible first | exact HB.out | apply below_alloc | apply pw_below_drewN | apply below_drew1) | exact HB.out)⟩⟩
                              · rw [if_neg c16] at H
                                have c16b0 : decide ((rd (rd_L1 l1 x26_1) x32_2) < 0) = false := decide_eq_false c16
                                clear c16
                                (first | rw [c16b0] | (simp only [i64_w, i32_w]; rw [c16b0]) | skip)
                                have H' := Aside0.mk H
                                clear H
                                go_wp2
                                go_meet
                                case rel => exact ⟨_, (decide ((rd (rd_L1 l1 x26_1) x32_2) ≥ a0)), (by first | rfl | (simp; done) | (simp [*]; done)), H', ⟨by have := HK1.out; have := HK2.out; first | omega | exact Nat.le_refl _⟩, ⟨by (with_reducible repeat (first | apply Kd.R_alloc | apply Kd.R_drewN | apply Kd.R_drew)); exact HO_7.out⟩, ⟨by repeat (first | (with_reducible first | exact HB.out | apply below_alloc | apply pw_below_drewN | apply below_drew1) | exact HB.out)⟩⟩
                            case rest =>
                              clear HC15
                              try clear c1
                              try clear c2
                              try clear p2
                              try clear q2
                              try clear hx2
                              try clear c4
                              try clear c4b0
                              try clear c4b1
                              try clear c5
                              try clear c5b0
                              try clear c5b1
                              try clear c6
                              try clear c6b0
                              try clear c6b1
                              try clear c9
                              try clear c9b0
                              try clear c10
                              try clear c10b0
                              try clear c11
                              try clear c11b0
                              try clear c12
                              try clear c12b0
                              try clear c13
                              try clear c13b0
                              try clear c14
                              try clear c14b0
                              try clear c16
                              try clear c16b0
                              try clear hx208_0
                              try clear hx209_0
                              try clear p2
                              try clear p208
                              try clear p209
                              try clear q2
                              try clear q208
                              try clear q209
                              obtain ⟨kq, x36_14, rfl, HA, HJ14, HO_7, HB⟩ := hcut
                              cases kq with
                              | zero => exact absurd HA.out (by simp [perm_FromCycles.j2])
                              | succ kj14 =>
                                have H := HA.out
                                clear HA
                                simp only [perm_FromCycles.j2] at H
                                by_cases c17 : x36_14 = true
                                · subst c17
                                  have H1 : (some (([] : List Int), 3)) = some (r1, r2) := by rw [if_pos rfl] at H; exact H
                                  clear H
                                  have H := H1
                                  clear H1
                                  simp only [Option.some.injEq, Prod.mk.injEq] at H
                                  obtain ⟨rfl, rfl⟩ := H
                                  go_wp2
                                  go_ret2
                                  exact ⟨_, by first | rfl | (simp [errW_none, errW_some] <;> rfl) | (simp [*, errW_none, errW_some] <;> rfl), by first | exact Kd.R_nil _ _ _ _ _ | exact Kd.N_nil _ _ _ _ _ | exact Kd.V_nil _ _ _ _ _ | exact Kd.Q_nil _ _ _ _ _ | exact Kd.S_nil _ _ _ _ _, by repeat (first | (with_reducible first | exact HB.out | apply below_alloc | apply pw_below_drewN | apply below_drew1) | exact HB.out)⟩
                                · replace c17 := Bool.eq_false_iff.mpr c17
                                  subst c17
                                  have H1 : (if 0 ≤ (rd (rd_L1 l1 x26_1) x32_2) then (if (rd (rd_L1 l1 x26_1) x32_2) < (x7_2.length : Int) then (if rdOf false x7_2 (rd (rd_L1 l1 x26_1) x32_2) = true then (some (([] : List Int), 24)) else (perm_FromCycles.l1 kj14 a0 l1 (x7_2.set ((rd (rd_L1 l1 x26_1) x32_2) : Int).toNat true) l1 (l1.length : Int) x26_1 (rd_L1 l1 x26_1) ((rd_L1 l1 x26_1).length : Int) (wrap64 (x32_2 + 1)))) else (none)) else (none)) = some (r1, r2) := by rw [if_neg (show ¬ (false = true) by decide)] at H; exact H
                                  clear H
                                  have H := H1
                                  clear H1
                                  by_cases c18 : 0 ≤ (rd (rd_L1 l1 x26_1) x32_2)
                                  · rw [if_pos c18] at H
                                    have c18b0 : decide (0 ≤ (rd (rd_L1 l1 x26_1) x32_2)) = true := decide_eq_true c18
                                    clear c18
                                    by_cases c19 : (rd (rd_L1 l1 x26_1) x32_2) < (x7_2.length : Int)
                                    · rw [if_pos c19] at H
                                      have c19b0 : decide ((rd (rd_L1 l1 x26_1) x32_2) < (x7_2.length : Int)) = true := decide_eq_true c19
                                      clear c19
                                      obtain ⟨bq20, hbq20⟩ : ∃ b_ : Bool, b_ = (rdOf false x7_2 (rd (rd_L1 l1 x26_1) x32_2)) := ⟨_, rfl⟩
                                      replace H : (if bq20 = true then (some (([] : List Int), 24)) else (perm_FromCycles.l1 kj14 a0 l1 (x7_2.set ((rd (rd_L1 l1 x26_1) x32_2) : Int).toNat true) l1 (l1.length : Int) x26_1 (rd_L1 l1 x26_1) ((rd_L1 l1 x26_1).length : Int) (wrap64 (x32_2 + 1)))) = some (r1, r2) := by rw [← hbq20] at H; exact H
                                      have Nbq20 := Aside0.mk hbq20
                                      clear hbq20
                                      by_cases c21 : bq20 = true
                                      · subst c21
                                        have H1 : (some (([] : List Int), 24)) = some (r1, r2) := by rw [if_pos rfl] at H; exact H
                                        clear H
                                        have H := H1
                                        clear H1
                                        simp only [Option.some.injEq, Prod.mk.injEq] at H
                                        obtain ⟨rfl, rfl⟩ := H
                                        obtain ⟨Ao22, co22, eo22⟩ := Kd.R_slice HO_7.out
                                        subst eo22
                                        have p210 : 0 ≤ ((rd (rd_L1 l1 x26_1) x32_2) : Int) := of_decide_eq_true (by first | (with_reducible assumption) | assumption)
                                        have q210 : (rd (rd_L1 l1 x26_1) x32_2) < (x7_2.length : Int) := of_decide_eq_true (by first | (with_reducible assumption) | assumption)
                                        obtain ⟨ad210, e210, hx210_0⟩ := Kd.at_bool (Kd.R_reads' HO_7.out).2.2 (rd (rd_L1 l1 x26_1) x32_2) p210 q210
                                        (try rw [← Nbq20.out] at hx210_0)
                                        cases e210
                                        replace p210 := eq_true p210
                                        replace q210 := eq_true q210
                                        go_wp2
                                        go_ret2
                                        exact ⟨_, by first | rfl | (simp [errW_none, errW_some] <;> rfl) | (simp [*, errW_none, errW_some] <;> rfl), by first | exact Kd.R_nil _ _ _ _ _ | exact Kd.N_nil _ _ _ _ _ | exact Kd.V_nil _ _ _ _ _ | exact Kd.Q_nil _ _ _ _ _ | exact Kd.S_nil _ _ _ _ _, by repeat (first | (with_reducible first | exact HB.out | apply below_alloc | apply pw_below_drewN | apply below_drew1) | exact HB.out)⟩
                                      · replace c21 := Bool.eq_false_iff.mpr c21
                                        subst c21
                                        have H1 : (perm_FromCycles.l1 kj14 a0 l1 (x7_2.set ((rd (rd_L1 l1 x26_1) x32_2) : Int).toNat true) l1 (l1.length : Int) x26_1 (rd_L1 l1 x26_1) ((rd_L1 l1 x26_1).length : Int) (wrap64 (x32_2 + 1))) = some (r1, r2) := by rw [if_neg (show ¬ (false = true) by decide)] at H; exact H
                                        clear H
                                        have H := H1
                                        clear H1
                                        obtain ⟨y211, hy211⟩ : ∃ y_ : List Bool, y_ = (x7_2.set ((rd (rd_L1 l1 x26_1) x32_2) : Int).toNat true) := ⟨_, rfl⟩
                                        replace H : (perm_FromCycles.l1 kj14 a0 l1 y211 l1 (l1.length : Int) x26_1 (rd_L1 l1 x26_1) ((rd_L1 l1 x26_1).length : Int) (wrap64 (x32_2 + 1))) = some (r1, r2) := by first | (rw [hy211]; with_reducible exact H) | (have H2_ := (Option.bind_some _ _).symm.trans H; rw [hy211]; with_reducible exact H2_) | (have H2_ := (Option.bind_some _ _).symm.trans H; with_reducible exact H2_) | with_reducible exact H | (rw [hy211]; exact H) | exact H
                                        have Ny211 := Aside0.mk hy211
                                        clear hy211
                                        have H' := Aside0.mk H
                                        clear H
                                        obtain ⟨Ao24, co24, eo24⟩ := Kd.R_slice HO_7.out
                                        subst eo24
                                        have p210 : 0 ≤ ((rd (rd_L1 l1 x26_1) x32_2) : Int) := of_decide_eq_true (by first | (with_reducible assumption) | assumption)
                                        have q210 : (rd (rd_L1 l1 x26_1) x32_2) < (x7_2.length : Int) := of_decide_eq_true (by first | (with_reducible assumption) | assumption)
                                        obtain ⟨ad210, e210, hx210_0⟩ := Kd.at_bool (Kd.R_reads' HO_7.out).2.2 (rd (rd_L1 l1 x26_1) x32_2) p210 q210
                                        (try rw [← Nbq20.out] at hx210_0)
                                        cases e210
                                        replace p210 := eq_true p210
                                        replace q210 := eq_true q210
                                        have p23 : 0 ≤ ((rd (rd_L1 l1 x26_1) x32_2) : Int) := of_decide_eq_true (by first | (with_reducible assumption) | assumption)
                                        have q23 : ((rd (rd_L1 l1 x26_1) x32_2) : Int) < ((x7_2.length : Int) : Int) := of_decide_eq_true (by first | (with_reducible assumption) | assumption)
                                        obtain ⟨go23, co23, eo23, gb23, gl23, cl23, HG23⟩ := Kd.R_form HO_7.out (by omega)
                                        (first | cases eo23 | (injection eo23 with ea_ en_ ec_; (first | subst ea_ | (injection ea_ with ea_; subst ea_)); subst ec_; clear en_))
                                        have GB23 := Aside0.mk gb23
                                        have GG23 := Aside0.mk HG23
                                        clear gb23 gl23 HG23
                                        (first | simp only [add_plain] at hx210_0 | skip)
                                        obtain ⟨hx23_0, hf23_0⟩ := Kd.R_celln false HO_7.out ((rd (rd_L1 l1 x26_1) x32_2) : Int) p23 q23
                                        replace p23 := eq_true p23
                                        replace q23 := eq_true q23
                                        have HP25 := Kd.R_putg HO_7.out ((rd (rd_L1 l1 x26_1) x32_2) : Int) true
                                        go_wp2_with (first | ((with_reducible refine gate_store (t := 4) (p := 51) rfl ?_); refine store_event (t := 4) (p := 51) (v := ?vo_w26) (w1 := (wc.setCell ⟨go23, ((rd (rd_L1 l1 x26_1) x32_2) : Int).toNat, none⟩ (.bool true))) ?hg ?ho ?hn ?hr ?_; (case ho => rfl); (case hg => rfl); (case hn => rfl); (case hr => first | (go_simp; done) | (go_simp; rfl)); intro w26 hw; have hg : wc.grownBy w26 (some go23) := (by rw [hw]; exact HP25.2); have hp_ : Kd.R Kd.bool 4 w26 w.heap.size (fun _ => True) (.slice (some ⟨go23, 0, none⟩) x7_2.length co24) y211 := (by rw [hw, Ny211.out]; exact HP25.1); clear HP25; have n0_ := Aside0.mk (hp_); have n1_ := Aside0.mk ((by rw [hw]; exact below_set (HB.out) GB23.out : Below w.heap.size w w26)); clear HO_7; clear HB; have HO_7 := n0_; have HB := n1_; clear n0_ n1_; clear hg hw hp_))
                                        go_roundg kj14
                                        case measure => have := HK1.out; have := HK2.out; have := HJ14.out; omega
                                        case rel => exact ⟨(y211), (wrap64 (x32_2 + 1)), (by first | rfl | (simp; done) | (simp [*]; done)), H', ⟨by have := HK1.out; have := HK2.out; have := HJ14.out; omega⟩, ⟨by (with_reducible repeat (first | apply Kd.R_alloc | apply Kd.R_drewN | apply Kd.R_drew)); exact HO_7.out⟩, ⟨by repeat (first | (with_reducible first | exact HB.out | apply below_alloc | apply pw_below_drewN | apply below_drew1) | exact HB.out)⟩⟩
                                    · rw [if_neg c19] at H
                                      exact absurd H (by simp)
                                  · rw [if_neg c18] at H
                                    exact absurd H (by simp)
                          · rw [if_neg c14] at H
                            exact absurd H (by simp)
                        · rw [if_neg c13] at H
                          exact absurd H (by simp)
                      · rw [if_neg c12] at H
                        have c12b0 : decide (x32_2 < ((rd_L1 l1 x26_1).length : Int)) = false := decide_eq_false c12
                        clear c12
                        have H' := Aside0.mk H
                        clear H
                        go_wp2
                        go_roundg k2
                        case measure => have := HK1.out; have := HK2.out; omega
                        case rel => exact ⟨(x7_2), (wrap64 (x26_1 + 1)), (by first | rfl | (simp; done) | (simp [*]; done)), H', ⟨by have := HK1.out; have := HK2.out; omega⟩, ⟨by (with_reducible repeat (first | apply Kd.R_alloc | apply Kd.R_drewN | apply Kd.R_drew)); exact HO_7.out⟩, ⟨by repeat (first | (with_reducible first | exact HB.out | apply below_alloc | apply pw_below_drewN | apply below_drew1) | exact HB.out)⟩⟩
                · rw [if_neg c11] at H
                  exact absurd H (by simp)
              · rw [if_neg c10] at H
                exact absurd H (by simp)
            · rw [if_neg c9] at H
              have c9b0 : decide (x26_1 < (l1.length : Int)) = false := decide_eq_false c9
              clear c9
              replace H := Option.bind_eq_some_iff.mp H
              obtain ⟨t212, A270, H⟩ := H
              replace H : (perm_FromCycles.l2 k1 t212 l1 (l1.length : Int) 0) = some (r1, r2) := H
              have A27 := Aside0.mk A270
              clear A270
              have H' := Aside0.mk H
              clear H
              go_wp2_with (first | ((with_reducible refine gate_callee (f := 58) rfl ?_); refine goesL_ (some 55) rfl rfl Tryd.func58 (by kernel_rfl) rfl #[.int .i64 a0] rfl (by (try simp only [List.map_toArray, List.map_cons, List.map_nil]); first | done | rfl | (simp only [List.length_drop, List.length_take]; rfl)) ?_; (with_reducible refine (perm_identity.calls k1 a0 t212 _ A27.out).mono ?_); rintro e w28 ⟨v213, rfl, ho0, hb⟩; refine ⟨_, rfl, ?_⟩; have n0_ := Aside0.mk (Kd.R_below (by (with_reducible repeat (first | apply Kd.R_alloc | apply Kd.R_drewN | apply Kd.R_drew)); exact HO_7.out) hb); have n1_ := Aside0.mk (Kd.R_lower ho0 (below_size (by repeat (first | (with_reducible first | exact HB.out | apply below_alloc | apply pw_below_drewN | apply below_drew1) | exact HB.out)))); have n2_ := Aside0.mk (below_step (by repeat (first | (with_reducible first | exact HB.out | apply below_alloc | apply pw_below_drewN | apply below_drew1) | exact HB.out)) hb); clear HO_7; clear HB; have HO_7 := n0_; have HO214 := n1_; have HB := n2_; clear n0_ n1_ n2_; (try clear hb); (try clear hb2); (try clear hk); (try clear hi); (try clear ho0)))
              go_loopg [58] k1 (fun kq v58 w' => ∃ (x12_2 : List Int) (x58_2 : Int), v58 = .int .i64 x58_2 ∧ Aside0 (perm_FromCycles.l2 kq x12_2 l1 (l1.length : Int) x58_2 = some (r1, r2)) ∧ Aside0 (kq ≤ k1) ∧ Aside0 (Kd.R (Kd.int .i64) 3 w' w.heap.size (fun _ => True) v213 x12_2) ∧ Aside0 (Below w.heap.size w w'))
              case atStart => exact ⟨(t212), (0), (by first | rfl | (simp; done) | (simp [*]; done)), H', ⟨Nat.le_refl _⟩, ⟨by (with_reducible repeat (first | apply Kd.R_alloc | apply Kd.R_drewN | apply Kd.R_drew)); exact HO214.out⟩, ⟨by repeat (first | (with_reducible first | exact HB.out | apply below_alloc | apply pw_below_drewN | apply below_drew1) | exact HB.out)⟩⟩
              case round =>
                clear H'
                try clear c1
                try clear c2
                try clear p2
                try clear q2
                try clear hx2
                try clear hf2
                try clear c4
                try clear c4b0
                try clear c4b1
                try clear c5
                try clear c5b0
                try clear c5b1
                try clear c6
                try clear c6b0
                try clear c6b1
                try clear p6
                try clear c9
                try clear c9b0
                try clear c10
                try clear c10b0
                try clear c11
                try clear c11b0
                try clear c12
                try clear c12b0
                try clear c13
                try clear c13b0
                try clear c14
                try clear c14b0
                try clear c16
                try clear c16b0
                try clear c17
                try clear c18
                try clear c18b0
                try clear c19
                try clear c19b0
                try clear c20
                try clear p20
                try clear q20
                try clear hx20
                try clear c21
                try clear p21
                try clear q21
                try clear hx21
                try clear p23
                try clear q23
                try clear hx23
                try clear hf23
                try clear hx208_0
                try clear hx209_0
                try clear hx210_0
                try clear hx23_0
                try clear p2
                try clear p208
                try clear p209
                try clear p210
                try clear p23
                try clear q2
                try clear q208
                try clear q209
                try clear q210
                try clear q23
                obtain ⟨x12_2, x58_2, rfl, HA, HK2, HO_12, HB⟩ := hrel
                cases gk with
                | zero => exact absurd HA.out (by simp [perm_FromCycles.l2])
                | succ k2 =>
                  have H := HA.out
                  clear HA
                  simp only [perm_FromCycles.l2] at H
                  by_cases c29 : x58_2 < (l1.length : Int)
                  · rw [if_pos c29] at H
                    have c29b0 : decide (x58_2 < (l1.length : Int)) = true := decide_eq_true c29
                    clear c29
                    by_cases c30 : 0 ≤ x58_2
                    · rw [if_pos c30] at H
                      have c30b0 : decide (0 ≤ x58_2) = true := decide_eq_true c30
                      clear c30
                      by_cases c31 : x58_2 < (l1.length : Int)
                      · rw [if_pos c31] at H
                        have c31b0 : decide (x58_2 < (l1.length : Int)) = true := decide_eq_true c31
                        clear c31
                        have H' := Aside0.mk H
                        clear H
                        have p215 : 0 ≤ (x58_2 : Int) := of_decide_eq_true (by first | (with_reducible assumption) | assumption)
                        have q215 : x58_2 < (l1.length : Int) := of_decide_eq_true (by first | (with_reducible assumption) | assumption)
                        obtain ⟨ad215, A215_0, c215_0, e215, hx215_0, hl215_0, hi215_0⟩ := at_L1 HR1.out x58_2 p215 q215
                        cases e215
                        try (replace hx215_0 := (HB.out.cell (World.block_lt_of_cell? w _ hx215_0)).trans hx215_0)
                        have HR215_0 := Aside0.mk hi215_0
                        have HC215_0 := Aside0.mk hl215_0
                        clear hi215_0 hl215_0
                        replace p215 := eq_true p215
                        replace q215 := eq_true q215
                        go_wp2
                        go_loopg [64] k2 (fun kq v64 w' => ∃ (x12_3 : List Int) (x64_3 : Int), v64 = .int .i64 x64_3 ∧ Aside0 (perm_FromCycles.l3 kq x12_3 (rd_L1 l1 x58_2) l1 (l1.length : Int) x58_2 (rd_L1 l1 x58_2) ((rd_L1 l1 x58_2).length : Int) x64_3 = some (r1, r2)) ∧ Aside0 (kq ≤ k2) ∧ Aside0 (Kd.R (Kd.int .i64) 3 w' w.heap.size (fun _ => True) v213 x12_3) ∧ Aside0 (Below w.heap.size w w'))
                        case atStart => exact ⟨(x12_2), (0), (by first | rfl | (simp; done) | (simp [*]; done)), H', ⟨Nat.le_refl _⟩, ⟨by (with_reducible repeat (first | apply Kd.R_alloc | apply Kd.R_drewN | apply Kd.R_drew)); exact HO_12.out⟩, ⟨by repeat (first | (with_reducible first | exact HB.out | apply below_alloc | apply pw_below_drewN | apply below_drew1) | exact HB.out)⟩⟩
                        case round =>
                          clear H'
                          try clear c1
                          try clear c2
                          try clear p2
                          try clear q2
                          try clear hx2
                          try clear hf2
                          try clear c3
                          try clear c4
                          try clear c4b0
                          try clear c4b1
                          try clear c5
                          try clear c5b0
                          try clear c5b1
                          try clear c6
                          try clear c6b0
                          try clear c6b1
                          try clear p6
                          try clear c9
                          try clear c9b0
                          try clear c10
                          try clear c10b0
                          try clear c11
                          try clear c11b0
                          try clear c12
                          try clear c12b0
                          try clear c13
                          try clear c13b0
                          try clear c14
                          try clear c14b0
                          try clear c16
                          try clear c16b0
                          try clear c17
                          try clear c18
                          try clear c18b0
                          try clear c19
                          try clear c19b0
                          try clear c20
                          try clear p20
                          try clear q20
                          try clear hx20
                          try clear c21
                          try clear p21
                          try clear q21
                          try clear hx21
                          try clear p23
                          try clear q23
                          try clear hx23
                          try clear hf23
                          try clear c29
                          try clear c29b0
                          try clear c30
                          try clear c30b0
                          try clear c31
                          try clear c31b0
                          try clear hx208_0
                          try clear hx209_0
                          try clear hx210_0
                          try clear hx215_0
                          try clear hx23_0
                          try clear p2
                          try clear p20
                          try clear p208
                          try clear p209
                          try clear p21
                          try clear p210
                          try clear p215
                          try clear p23
                          try clear p6
                          try clear q2
                          try clear q20
                          try clear q208
                          try clear q209
                          try clear q21
                          try clear q210
                          try clear q215
                          try clear q23
                          obtain ⟨x12_3, x64_3, rfl, HA, HK3, HO_12, HB⟩ := hrel
                          cases gk with
                          | zero => exact absurd HA.out (by simp [perm_FromCycles.l3])
                          | succ k3 =>
                            have H := HA.out
                            clear HA
                            simp only [perm_FromCycles.l3] at H
                            by_cases c32 : x64_3 < ((rd_L1 l1 x58_2).length : Int)
                            · rw [if_pos c32] at H
                              have c32b0 : decide (x64_3 < ((rd_L1 l1 x58_2).length : Int)) = true := decide_eq_true c32
                              clear c32
                              by_cases c33 : 0 ≤ x64_3
                              · rw [if_pos c33] at H
                                have c33b0 : decide (0 ≤ x64_3) = true := decide_eq_true c33
                                clear c33
                                by_cases c34 : x64_3 < ((rd_L1 l1 x58_2).length : Int)
                                · rw [if_pos c34] at H
                                  have c34b0 : decide (x64_3 < ((rd_L1 l1 x58_2).length : Int)) = true := decide_eq_true c34
                                  clear c34
                                  by_cases c35 : ((rd_L1 l1 x58_2).length : Int) = 0
                                  · rw [if_pos c35] at H
                                    exact absurd H (by simp)
                                  · rw [if_neg c35] at H
                                    have c35b0 : (((rd_L1 l1 x58_2).length : Int) == 0) = false := beq_eq_false_iff_ne.mpr c35
                                    have c35b1 : (((rd_L1 l1 x58_2).length : Int) != 0) = true := bne_iff_ne.mpr c35
                                    have c35b2 : ¬ ((rd_L1 l1 x58_2) = []) := fun h_ => c35 (by rw [h_]; rfl)
                                    obtain ⟨ji36, hji36⟩ : ∃ j_ : Int, (Int.tmod (wrap64 (x64_3 + 1)) ((rd_L1 l1 x58_2).length : Int)) = j_ := ⟨_, rfl⟩
                                    replace H : (if 0 ≤ (ji36) then (if (ji36) < ((rd_L1 l1 x58_2).length : Int) then (if 0 ≤ (rd (rd_L1 l1 x58_2) x64_3) then (if (rd (rd_L1 l1 x58_2) x64_3) < (x12_3.length : Int) then (perm_FromCycles.l3 k3 (x12_3.set ((rd (rd_L1 l1 x58_2) x64_3) : Int).toNat (rd (rd_L1 l1 x58_2) (ji36))) (rd_L1 l1 x58_2) l1 (l1.length : Int) x58_2 (rd_L1 l1 x58_2) ((rd_L1 l1 x58_2).length : Int) (wrap64 (x64_3 + 1))) else (none)) else (none)) else (none)) else (none)) = some (r1, r2) := by first | (rw [hji36] at H; exact H) | (simp only [hji36] at H ⊢; exact H)
                                    by_cases c37 : 0 ≤ (ji36)
                                    · rw [if_pos c37] at H
                                      have c37b0 : decide (0 ≤ (ji36)) = true := decide_eq_true c37
                                      clear c37
                                      by_cases c38 : (ji36) < ((rd_L1 l1 x58_2).length : Int)
                                      · rw [if_pos c38] at H
                                        have c38b0 : decide ((ji36) < ((rd_L1 l1 x58_2).length : Int)) = true := decide_eq_true c38
                                        clear c38
                                        by_cases c39 : 0 ≤ (rd (rd_L1 l1 x58_2) x64_3)
                                        · rw [if_pos c39] at H
                                          have c39b0 : decide (0 ≤ (rd (rd_L1 l1 x58_2) x64_3)) = true := decide_eq_true c39
                                          clear c39
                                          by_cases c40 : (rd (rd_L1 l1 x58_2) x64_3) < (x12_3.length : Int)
                                          · rw [if_pos c40] at H
                                            have c40b0 : decide ((rd (rd_L1 l1 x58_2) x64_3) < (x12_3.length : Int)) = true := decide_eq_true c40
                                            clear c40
                                            obtain ⟨y218, hy218⟩ : ∃ y_ : List Int, y_ = (x12_3.set ((rd (rd_L1 l1 x58_2) x64_3) : Int).toNat (rd (rd_L1 l1 x58_2) (ji36))) := ⟨_, rfl⟩
                                            replace H : (perm_FromCycles.l3 k3 y218 (rd_L1 l1 x58_2) l1 (l1.length : Int) x58_2 (rd_L1 l1 x58_2) ((rd_L1 l1 x58_2).length : Int) (wrap64 (x64_3 + 1))) = some (r1, r2) := by first | (rw [hy218]; with_reducible exact H) | (have H2_ := (Option.bind_some _ _).symm.trans H; rw [hy218]; with_reducible exact H2_) | (have H2_ := (Option.bind_some _ _).symm.trans H; with_reducible exact H2_) | with_reducible exact H | (rw [hy218]; exact H) | exact H
                                            have Ny218 := Aside0.mk hy218
                                            clear hy218
                                            have H' := Aside0.mk H
                                            clear H
                                            have p216 : 0 ≤ (x64_3 : Int) := of_decide_eq_true (by first | (with_reducible assumption) | assumption)
                                            have q216 : x64_3 < ((rd_L1 l1 x58_2).length : Int) := of_decide_eq_true (by first | (with_reducible assumption) | assumption)
                                            obtain ⟨ad216, e216, hx216_0⟩ := Kd.at_int HR215_0.out x64_3 p216 q216
                                            cases e216
                                            try (replace hx216_0 := (HB.out.cell (World.block_lt_of_cell? w _ hx216_0)).trans hx216_0)
                                            replace p216 := eq_true p216
                                            replace q216 := eq_true q216
                                            have p217 : 0 ≤ ((ji36) : Int) := of_decide_eq_true (by first | (with_reducible assumption) | assumption)
                                            have q217 : (ji36) < ((rd_L1 l1 x58_2).length : Int) := of_decide_eq_true (by first | (with_reducible assumption) | assumption)
                                            obtain ⟨ad217, e217, hx217_0⟩ := Kd.at_int HR215_0.out (ji36) p217 q217
                                            obtain rfl : ad216 = ad217 := (by injection e217)
                                            try (replace hx217_0 := (HB.out.cell (World.block_lt_of_cell? w _ hx217_0)).trans hx217_0)
                                            replace p217 := eq_true p217
                                            replace q217 := eq_true q217
                                            have p41 : 0 ≤ ((rd (rd_L1 l1 x58_2) x64_3) : Int) := of_decide_eq_true (by first | (with_reducible assumption) | assumption)
                                            have q41 : ((rd (rd_L1 l1 x58_2) x64_3) : Int) < ((x12_3.length : Int) : Int) := of_decide_eq_true (by first | (with_reducible assumption) | assumption)
                                            obtain ⟨go41, co41, eo41, gb41, gl41, cl41, HG41⟩ := Kd.R_form HO_12.out (by omega)
                                            (first | cases eo41 | (injection eo41 with ea_ en_ ec_; (first | subst ea_ | (injection ea_ with ea_; subst ea_)); subst ec_; clear en_))
                                            have GB41 := Aside0.mk gb41
                                            have GG41 := Aside0.mk HG41
                                            clear gb41 gl41 HG41
                                            obtain ⟨hx41_0, hf41_0⟩ := Kd.R_celln 0 HO_12.out ((rd (rd_L1 l1 x58_2) x64_3) : Int) p41 q41
                                            replace p41 := eq_true p41
                                            replace q41 := eq_true q41
                                            have HP42 := Kd.R_putg HO_12.out ((rd (rd_L1 l1 x58_2) x64_3) : Int) (rd (rd_L1 l1 x58_2) (ji36))
                                            go_wp2_with (first | ((with_reducible refine gate_store (t := 3) (p := 79) rfl ?_); refine store_event (t := 3) (p := 79) (v := ?vo_w43) (w1 := (wr.setCell ⟨go41, ((rd (rd_L1 l1 x58_2) x64_3) : Int).toNat, none⟩ (.int .i64 (rd (rd_L1 l1 x58_2) (ji36))))) ?hg ?ho ?hn ?hr ?_; (case ho => rfl); (case hg => rfl); (case hn => rfl); (case hr => first | (go_simp; done) | (go_simp; rfl)); intro w43 hw; have hg : wr.grownBy w43 (some go41) := (by rw [hw]; exact HP42.2); have hp_ : Kd.R (Kd.int .i64) 3 w43 w.heap.size (fun _ => True) (.slice (some ⟨go41, 0, none⟩) x12_3.length co41) y218 := (by rw [hw, Ny218.out]; exact HP42.1); clear HP42; have n0_ := Aside0.mk (hp_); have n1_ := Aside0.mk ((by rw [hw]; exact below_set (HB.out) GB41.out : Below w.heap.size w w43)); clear HO_12; clear HB; have HO_12 := n0_; have HB := n1_; clear n0_ n1_; clear hg hw hp_))
                                            go_roundg k3
                                            case measure => have := HK1.out; have := HK2.out; have := HK3.out; omega
                                            case rel => exact ⟨(y218), (wrap64 (x64_3 + 1)), (by first | rfl | (simp; done) | (simp [*]; done)), H', ⟨by have := HK1.out; have := HK2.out; have := HK3.out; omega⟩, ⟨by (with_reducible repeat (first | apply Kd.R_alloc | apply Kd.R_drewN | apply Kd.R_drew)); exact HO_12.out⟩, ⟨by repeat (first | (with_reducible first | exact HB.out | apply below_alloc | apply pw_below_drewN | apply below_drew1) | exact HB.out)⟩⟩
                                          · rw [if_neg c40] at H
                                            exact absurd H (by simp)
                                        · rw [if_neg c39] at H
                                          exact absurd H (by simp)
                                      · rw [if_neg c38] at H
                                        exact absurd H (by simp)
                                    · rw [if_neg c37] at H
                                      exact absurd H (by simp)
                                · rw [if_neg c34] at H
                                  exact absurd H (by simp)
                              · rw [if_neg c33] at H
                                exact absurd H (by simp)
                            · rw [if_neg c32] at H
                              have c32b0 : decide (x64_3 < ((rd_L1 l1 x58_2).length : Int)) = false := decide_eq_false c32
                              clear c32
                              have H' := Aside0.mk H
                              clear H
                              go_wp2
                              go_roundg k3
                              case measure => have := HK1.out; have := HK2.out; have := HK3.out; omega
                              case rel => exact ⟨(x12_3), (wrap64 (x58_2 + 1)), (by first | rfl | (simp; done) | (simp [*]; done)), H', ⟨by have := HK1.out; have := HK2.out; have := HK3.out; omega⟩, ⟨by (with_reducible repeat (first | apply Kd.R_alloc | apply Kd.R_drewN | apply Kd.R_drew)); exact HO_12.out⟩, ⟨by repeat (first | (with_reducible first | exact HB.out | apply below_alloc | apply pw_below_drewN | apply below_drew1) | exact HB.out)⟩⟩
                      · rw [if_neg c31] at H
                        exact absurd H (by simp)
                    · rw [if_neg c30] at H
                      exact absurd H (by simp)
                  · rw [if_neg c29] at H
                    have c29b0 : decide (x58_2 < (l1.length : Int)) = false := decide_eq_false c29
                    clear c29
                    simp only [Option.some.injEq, Prod.mk.injEq] at H
                    obtain ⟨rfl, rfl⟩ := H
                    go_wp2
                    go_ret2
                    exact ⟨_, by first | rfl | (simp [errW_none, errW_some] <;> rfl) | (simp [*, errW_none, errW_some] <;> rfl), by (with_reducible repeat (first | apply Kd.R_alloc | apply Kd.R_drewN | apply Kd.R_drew)); exact HO_12.out, by repeat (first | (with_reducible first | exact HB.out | apply below_alloc | apply pw_below_drewN | apply below_drew1) | exact HB.out)⟩
      · rw [if_neg c6] at H
        exact absurd H (by simp)
    · rw [if_neg c5] at H
      exact absurd H (by simp)
  · rw [if_neg c4] at H
    have c4b0 : (t204 == 0) = false := beq_eq_false_iff_ne.mpr c4
    have c4b1 : (t204 != 0) = true := bne_iff_ne.mpr c4
    simp only [Option.some.injEq, Prod.mk.injEq] at H
    obtain ⟨rfl, rfl⟩ := H
    go_enter Tryd.func20, Tryd.ntmps20
    go_wp2_with (first | ((with_reducible refine gate_callee (f := 61) rfl ?_); refine goesL_ (some 18) rfl rfl Tryd.func61 (by kernel_rfl) rfl #[.int .i64 a0] rfl (by (try simp only [List.map_toArray, List.map_cons, List.map_nil]); first | done | rfl | (simp only [List.length_drop, List.length_take]; rfl)) ?_; (with_reducible refine (perm_checkDegree.calls a0 t204 _ A3.out).mono ?_); rintro e w' ⟨rfl, ⟨nd, rfl⟩⟩; refine ⟨_, rfl, ?_⟩))
    go_ret2
    exact ⟨_, by first | rfl | (simp [errW_none, errW_some] <;> rfl) | (simp [*, errW_none, errW_some] <;> rfl), by first | exact Kd.R_nil _ _ _ _ _ | exact Kd.N_nil _ _ _ _ _ | exact Kd.V_nil _ _ _ _ _ | exact Kd.Q_nil _ _ _ _ _ | exact Kd.S_nil _ _ _ _ _, by repeat (first | (with_reducible first | exact HB.out | apply below_alloc | apply pw_below_drewN | apply below_drew1) | exact HB.out)⟩

-- NOT PRINTED: function 62 (api_Perm_int_62)

end Go.Proofs.YtoaalfpfklchfaaDoor.PPermBack
