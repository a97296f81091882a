-- Printed by wip/tools/mk.py of this repo (the kit's print with turns made in memory).
import Derived.Test.YtoaalfpfklchfaaDoorZPermTextsPx0
import Derived.Test.YtoaalfpfklchfaaDoorZPermTextsPx7
namespace Go.Proofs.YtoaalfpfklchfaaDoor.PPermTexts
open Go.RowKit Go.Proofs.YtoaalfpfklchfaaDoorW.PrintWords Go.Proofs.YtoaalfpfklchfaaDoorW.PrintLast Go.Proofs.YtoaalfpfklchfaaDoorW.PrintMore
attribute [local go_sem] max2_int min2_int max_two min_two max_three min_three max_four min_four   -- for this text's walks alone
set_option linter.unusedVariables false
set_option linter.unusedSimpArgs false

/-! ### galoisref22_FromCycles: function 21 -/
mutual
def galoisref22_FromCycles.l0 : Nat → Int → List (List Int) → List Int → List Bool → Int → Option (List Int × Int)
  | 0, _, _, _, _, _ => none
  | k + 1, x0, x1, x7, x8, x9 => if x9 < (x1.length : Int) then (galoisref22_FromCycles.l1 k x0 x1 x7 x8 x9 0) else (galoisref22_FromCycles.l2 k x1 x7 0)
def galoisref22_FromCycles.l1 : Nat → Int → List (List Int) → List Int → List Bool → Int → Int → Option (List Int × Int)
  | 0, _, _, _, _, _, _ => none
  | k + 1, x0, x1, x7, x8, x9, x10 => if 0 ≤ x9 then (if x9 < (x1.length : Int) then (if x10 < ((rd_L1 x1 x9).length : Int) then (if 0 ≤ x10 then (if (rd (rd_L1 x1 x9) x10) < 0 then (galoisref22_FromCycles.j2 k x0 x1 x7 x8 x9 x10 (rd (rd_L1 x1 x9) x10) true) else (galoisref22_FromCycles.j2 k x0 x1 x7 x8 x9 x10 (rd (rd_L1 x1 x9) x10) (decide ((rd (rd_L1 x1 x9) x10) ≥ x0)))) else (none)) else (galoisref22_FromCycles.l0 k x0 x1 x7 x8 (wrap64 (x9 + 1)))) else (none)) else (none)
def galoisref22_FromCycles.j2 : Nat → Int → List (List Int) → List Int → List Bool → Int → Int → Int → Bool → Option (List Int × Int)
  | 0, _, _, _, _, _, _, _, _ => none
  | k + 1, x0, x1, x7, x8, x9, x10, x11, x51 => if x51 = true then (some (([] : List Int), 3)) else (if 0 ≤ x11 then (if x11 < (x8.length : Int) then (if rdOf false x8 x11 = true then (some (([] : List Int), 24)) else (galoisref22_FromCycles.l1 k x0 x1 x7 (x8.set (x11 : Int).toNat true) x9 (wrap64 (x10 + 1)))) else (none)) else (none))
def galoisref22_FromCycles.l2 : Nat → List (List Int) → List Int → Int → Option (List Int × Int)
  | 0, _, _, _ => none
  | k + 1, x1, x7, x12 => if x12 < (x1.length : Int) then (galoisref22_FromCycles.l3 k x1 x7 x12 0) else (some (x7, 0))
def galoisref22_FromCycles.l3 : Nat → List (List Int) → List Int → Int → Int → Option (List Int × Int)
  | 0, _, _, _, _ => none
  | k + 1, x1, x7, x12, x13 => if 0 ≤ x12 then (if x12 < (x1.length : Int) then (if x13 < ((rd_L1 x1 x12).length : Int) then (if 0 ≤ x13 then (if ((rd_L1 x1 x12).length : Int) = 0 then (none) else (if 0 ≤ (Int.tmod (wrap64 (x13 + 1)) ((rd_L1 x1 x12).length : Int)) then (if (Int.tmod (wrap64 (x13 + 1)) ((rd_L1 x1 x12).length : Int)) < ((rd_L1 x1 x12).length : Int) then (if 0 ≤ (rd (rd_L1 x1 x12) x13) then (if (rd (rd_L1 x1 x12) x13) < (x7.length : Int) then (galoisref22_FromCycles.l3 k x1 (x7.set ((rd (rd_L1 x1 x12) x13) : Int).toNat (rd (rd_L1 x1 x12) (Int.tmod (wrap64 (x13 + 1)) ((rd_L1 x1 x12).length : Int)))) x12 (wrap64 (x13 + 1))) else (none)) else (none)) else (none)) else (none))) else (none)) else (galoisref22_FromCycles.l2 k x1 x7 (wrap64 (x12 + 1)))) else (none)) else (none)
end
def galoisref22_FromCycles.f (k : Nat) (a0 : Int) (l1 : List (List Int)) : Option (List Int × Int) := (galoisref22_Degree.f a0).bind fun t273 => (if t273 = 0 then ((galoisref22_Identity.f k a0).bind fun t274 => (if 0 ≤ a0 then (if (a0 : Int).toNat ≤ 281474976710656 then (galoisref22_FromCycles.l0 k a0 l1 t274 (List.replicate (a0 : Int).toNat false) 0) else (none)) else (none))) else (some (([] : List Int), t273)))
theorem galoisref22_FromCycles.mono_l : ∀ k, (∀ y0 y1 y2 y3 y4, LeO (galoisref22_FromCycles.l0 k y0 y1 y2 y3 y4) (galoisref22_FromCycles.l0 (k + 1) y0 y1 y2 y3 y4)) ∧ (∀ y0 y1 y2 y3 y4 y5, LeO (galoisref22_FromCycles.l1 k y0 y1 y2 y3 y4 y5) (galoisref22_FromCycles.l1 (k + 1) y0 y1 y2 y3 y4 y5)) ∧ (∀ y0 y1 y2 y3 y4 y5 y6 y7, LeO (galoisref22_FromCycles.j2 k y0 y1 y2 y3 y4 y5 y6 y7) (galoisref22_FromCycles.j2 (k + 1) y0 y1 y2 y3 y4 y5 y6 y7)) ∧ (∀ y0 y1 y2, LeO (galoisref22_FromCycles.l2 k y0 y1 y2) (galoisref22_FromCycles.l2 (k + 1) y0 y1 y2)) ∧ (∀ y0 y1 y2 y3, LeO (galoisref22_FromCycles.l3 k y0 y1 y2 y3) (galoisref22_FromCycles.l3 (k + 1) y0 y1 y2 y3))
  | 0 => ⟨fun _ _ _ _ _ r h => by simp [galoisref22_FromCycles.l0] at h, fun _ _ _ _ _ _ r h => by simp [galoisref22_FromCycles.l1] at h, fun _ _ _ _ _ _ _ _ r h => by simp [galoisref22_FromCycles.j2] at h, fun _ _ _ r h => by simp [galoisref22_FromCycles.l2] at h, fun _ _ _ _ r h => by simp [galoisref22_FromCycles.l3] at h⟩
  | k + 1 => by
    obtain ⟨ih0, ih1, ih2, ih3, ih4⟩ := galoisref22_FromCycles.mono_l k
    refine ⟨?_, ?_, ?_, ?_, ?_⟩
    · intro y0 y1 y2 y3 y4
      unfold galoisref22_FromCycles.l0
      repeat' first
      | (with_reducible exact ih0 _ _ _ _ _)
      | (with_reducible exact ih1 _ _ _ _ _ _)
      | (with_reducible exact ih2 _ _ _ _ _ _ _ _)
      | (with_reducible exact ih3 _ _ _)
      | (with_reducible exact ih4 _ _ _ _)
      | (with_reducible exact galoisref22_Identity.mono _ _)
      | (with_reducible exact LeO.refl _)
      | (with_reducible exact LeO.none _)
      | (with_reducible refine LeO.ite ?_ ?_)
      | (with_reducible refine LeO.bind ?_ (fun _ => ?_))
      | exact ih0 _ _ _ _ _
      | exact ih1 _ _ _ _ _ _
      | exact ih2 _ _ _ _ _ _ _ _
      | exact ih3 _ _ _
      | exact ih4 _ _ _ _
      | exact galoisref22_Identity.mono _ _
      | exact LeO.none _
      | refine LeO.ite ?_ ?_
      | refine LeO.bind ?_ (fun _ => ?_)
    · intro y0 y1 y2 y3 y4 y5
      unfold galoisref22_FromCycles.l1
      repeat' first
      | (with_reducible exact ih0 _ _ _ _ _)
      | (with_reducible exact ih1 _ _ _ _ _ _)
      | (with_reducible exact ih2 _ _ _ _ _ _ _ _)
      | (with_reducible exact ih3 _ _ _)
      | (with_reducible exact ih4 _ _ _ _)
      | (with_reducible exact galoisref22_Identity.mono _ _)
      | (with_reducible exact LeO.refl _)
      | (with_reducible exact LeO.none _)
      | (with_reducible refine LeO.ite ?_ ?_)
      | (with_reducible refine LeO.bind ?_ (fun _ => ?_))
      | exact ih0 _ _ _ _ _
      | exact ih1 _ _ _ _ _ _
      | exact ih2 _ _ _ _ _ _ _ _
      | exact ih3 _ _ _
      | exact ih4 _ _ _ _
      | exact galoisref22_Identity.mono _ _
      | exact LeO.none _
      | refine LeO.ite ?_ ?_
      | refine LeO.bind ?_ (fun _ => ?_)
    · intro y0 y1 y2 y3 y4 y5 y6 y7
      unfold galoisref22_FromCycles.j2
      repeat' first
      | (with_reducible exact ih0 _ _ _ _ _)
      | (with_reducible exact ih1 _ _ _ _ _ _)
      | (with_reducible exact ih2 _ _ _ _ _ _ _ _)
      | (with_reducible exact ih3 _ _ _)
      | (with_reducible exact ih4 _ _ _ _)
      | (with_reducible exact galoisref22_Identity.mono _ _)
      | (with_reducible exact LeO.refl _)
      | (with_reducible exact LeO.none _)
      | (with_reducible refine LeO.ite ?_ ?_)
      | (with_reducible refine LeO.bind ?_ (fun _ => ?_))
      | exact ih0 _ _ _ _ _
      | exact ih1 _ _ _ _ _ _
      | exact ih2 _ _ _ _ _ _ _ _
      | exact ih3 _ _ _
      | exact ih4 _ _ _ _
      | exact galoisref22_Identity.mono _ _
      | exact LeO.none _
      | refine LeO.ite ?_ ?_
      | refine LeO.bind ?_ (fun _ => ?_)
    · intro y0 y1 y2
      unfold galoisref22_FromCycles.l2
      repeat' first
      | (with_reducible exact ih0 _ _ _ _ _)
      | (with_reducible exact ih1 _ _ _ _ _ _)
      | (with_reducible exact ih2 _ _ _ _ _ _ _ _)
      | (with_reducible exact ih3 _ _ _)
      | (with_reducible exact ih4 _ _ _ _)
      | (with_reducible exact galoisref22_Identity.mono _ _)
      | (with_reducible exact LeO.refl _)
      | (with_reducible exact LeO.none _)
      | (with_reducible refine LeO.ite ?_ ?_)
      | (with_reducible refine LeO.bind ?_ (fun _ => ?_))
      | exact ih0 _ _ _ _ _
      | exact ih1 _ _ _ _ _ _
      | exact ih2 _ _ _ _ _ _ _ _
      | exact ih3 _ _ _
      | exact ih4 _ _ _ _
      | exact galoisref22_Identity.mono _ _
      | exact LeO.none _
      | refine LeO.ite ?_ ?_
      | refine LeO.bind ?_ (fun _ => ?_)
    · intro y0 y1 y2 y3
      unfold galoisref22_FromCycles.l3
      repeat' first
      | (with_reducible exact ih0 _ _ _ _ _)
      | (with_reducible exact ih1 _ _ _ _ _ _)
      | (with_reducible exact ih2 _ _ _ _ _ _ _ _)
      | (with_reducible exact ih3 _ _ _)
      | (with_reducible exact ih4 _ _ _ _)
      | (with_reducible exact galoisref22_Identity.mono _ _)
      | (with_reducible exact LeO.refl _)
      | (with_reducible exact LeO.none _)
      | (with_reducible refine LeO.ite ?_ ?_)
      | (with_reducible refine LeO.bind ?_ (fun _ => ?_))
      | exact ih0 _ _ _ _ _
      | exact ih1 _ _ _ _ _ _
      | exact ih2 _ _ _ _ _ _ _ _
      | exact ih3 _ _ _
      | exact ih4 _ _ _ _
      | exact galoisref22_Identity.mono _ _
      | exact LeO.none _
      | refine LeO.ite ?_ ?_
      | refine LeO.bind ?_ (fun _ => ?_)
theorem galoisref22_FromCycles.mono : ∀ a0 a1 k, LeO (galoisref22_FromCycles.f k a0 a1) (galoisref22_FromCycles.f (k + 1) a0 a1) := by
  intro a0 a1 k
  obtain ⟨ih0, ih1, ih2, ih3, ih4⟩ := galoisref22_FromCycles.mono_l k
  unfold galoisref22_FromCycles.f
  repeat' first
      | (with_reducible exact ih0 _ _ _ _ _)
      | (with_reducible exact ih1 _ _ _ _ _ _)
      | (with_reducible exact ih2 _ _ _ _ _ _ _ _)
      | (with_reducible exact ih3 _ _ _)
      | (with_reducible exact ih4 _ _ _ _)
      | (with_reducible exact galoisref22_Identity.mono _ _)
      | (with_reducible exact LeO.refl _)
      | (with_reducible exact LeO.none _)
      | (with_reducible refine LeO.ite ?_ ?_)
      | (with_reducible refine LeO.bind ?_ (fun _ => ?_))
      | exact ih0 _ _ _ _ _
      | exact ih1 _ _ _ _ _ _
      | exact ih2 _ _ _ _ _ _ _ _
      | exact ih3 _ _ _
      | exact ih4 _ _ _ _
      | exact galoisref22_Identity.mono _ _
      | exact LeO.none _
      | refine LeO.ite ?_ ?_
      | refine LeO.bind ?_ (fun _ => ?_)
def galoisref22_FromCycles.T24 : Bool × List (List Nat × List Nat) := (true, [([], []), ([], []), ([], []), ([1, 2], [1, 2]), ([3], [3]), ([], []), ([4, 5], [4, 5]), ([6], [6]), ([], []), ([], []), ([8, 9], [8, 9]), ([10], [10]), ([], []), ([12], [12]), ([], []), ([], []), ([14, 15], [14, 15]), ([16], [16]), ([17], [17]), ([13, 18], [13, 18]), ([11, 19], [11, 19]), ([20], [20]), ([0, 7, 0, 1, 2, 3, 4, 5, 6, 7, 8, 9, 10, 11, 12, 13, 14, 15, 16, 17, 18, 19, 20, 21], [0, 7]), ([22, 21, 0, 1, 2, 3, 4, 5, 6, 7, 8, 9, 10, 11, 12, 13, 14, 15, 16, 17, 18, 19, 20, 21], [21, 22])])
def galoisref22_FromCycles.B24 : List Nat := [0, 0, 0, 6, 14, 0, 62, 126, 0, 0, 768, 1792, 0, 4096, 0, 0, 49152, 114688, 245760, 520192, 1048320, 2096896, 4194303, 8388607]
theorem galoisref22_FromCycles.tab24 : rtab .any (opsOf Tryd.f21 24) = galoisref22_FromCycles.T24 := by kernel_rfl
theorem galoisref22_FromCycles.bits24 : waitsOk galoisref22_FromCycles.T24.2 galoisref22_FromCycles.B24 = true := by kernel_rfl
set_option maxHeartbeats 8000000 in
set_option maxRecDepth 100000 in
theorem galoisref22_FromCycles.calls (k : Nat) (a0 : Int) (A1 : Option Addr) (c1 : Nat) (l1 : List (List Int)) (r1 : List Int) (r2 : Int) (w : World) (hr1 : Kd.C (Kd.slice 3 (Kd.int .i64)) w A1 l1.length l1) (hc1 : l1.length ≤ c1) (h : galoisref22_FromCycles.f k a0 l1 = some (r1, r2)) :
    Calls Tryd.prog 21 #[.int .i64 a0, .slice A1 l1.length c1] w fun e w' => ∃ v0_ : Value, e = .returned (.tuple #[v0_, .int .i64 r2]) ∧ Kd.R (Kd.int .i64) 3 w' w.heap.size (fun _ => True) v0_ r1 ∧ Below w.heap.size w w' := by
  have HR1 := Aside0.mk hr1
  have HC1 := Aside0.mk hc1
  clear hr1 hc1
  have HB := Aside0.mk (Below.refl w.heap.size w)
  have H : ((galoisref22_Degree.f a0).bind fun t273 => (if t273 = 0 then ((galoisref22_Identity.f k a0).bind fun t274 => (if 0 ≤ a0 then (if (a0 : Int).toNat ≤ 281474976710656 then (galoisref22_FromCycles.l0 k a0 l1 t274 (List.replicate (a0 : Int).toNat false) 0) else (none)) else (none))) else (some (([] : List Int), t273)))) = some (r1, r2) := h
  clear h
  replace H := Option.bind_eq_some_iff.mp H
  obtain ⟨t273, A30, H⟩ := H
  replace H : (if t273 = 0 then ((galoisref22_Identity.f k a0).bind fun t274 => (if 0 ≤ a0 then (if (a0 : Int).toNat ≤ 281474976710656 then (galoisref22_FromCycles.l0 k a0 l1 t274 (List.replicate (a0 : Int).toNat false) 0) else (none)) else (none))) else (some (([] : List Int), t273))) = some (r1, r2) := H
  have A3 := Aside0.mk A30
  clear A30
  by_cases c4 : t273 = 0
  · rw [if_pos c4] at H
    have c4b0 : (t273 == 0) = true := beq_iff_eq.mpr c4
    have c4b1 : (t273 != 0) = false := bne_eq_false_iff_eq.mpr c4
    clear c4
    replace H := Option.bind_eq_some_iff.mp H
    obtain ⟨t274, A50, H⟩ := H
    replace H : (if 0 ≤ a0 then (if (a0 : Int).toNat ≤ 281474976710656 then (galoisref22_FromCycles.l0 k a0 l1 t274 (List.replicate (a0 : Int).toNat false) 0) else (none)) else (none)) = some (r1, r2) := H
    have A5 := Aside0.mk A50
    clear A50
    by_cases c6 : 0 ≤ a0
    · rw [if_pos c6] at H
      have c6b0 := eq_true c6
      have c6b1 : decide (0 ≤ a0) = true := decide_eq_true c6
      clear c6
      by_cases c7 : (a0 : Int).toNat ≤ 281474976710656
      · rw [if_pos c7] at H
        have c7b0 := eq_true c7
        have c7b1 : decide ((a0 : Int).toNat ≤ 281474976710656) = true := decide_eq_true c7
        clear c7
        obtain ⟨y277, hy277⟩ : ∃ y_ : List Bool, y_ = (List.replicate (a0 : Int).toNat false) := ⟨_, rfl⟩
        replace H : (galoisref22_FromCycles.l0 k a0 l1 t274 y277 0) = some (r1, r2) := by first | (rw [hy277]; with_reducible exact H) | (have H2_ := (Option.bind_some _ _).symm.trans H; rw [hy277]; with_reducible exact H2_) | (have H2_ := (Option.bind_some _ _).symm.trans H; with_reducible exact H2_) | with_reducible exact H | (rw [hy277]; exact H) | exact H
        have Ny277 := Aside0.mk hy277
        clear hy277
        have H' := Aside0.mk H
        clear H
        go_enter Tryd.func21, Tryd.ntmps21
        go_wp2_with (first | ((with_reducible refine gate_callee (f := 22) rfl ?_); refine goesL_ (some 15) rfl rfl Tryd.func22 (by kernel_rfl) rfl #[.int .i64 a0] rfl (by (try simp only [List.map_toArray, List.map_cons, List.map_nil]); first | done | rfl | (simp only [List.length_drop, List.length_take]; rfl)) ?_; (with_reducible refine (galoisref22_Degree.calls a0 t273 _ A3.out).mono ?_); rintro e w' ⟨rfl, ⟨nd, rfl⟩⟩; refine ⟨_, rfl, ?_⟩) | ((with_reducible refine gate_callee (f := 23) rfl ?_); refine goesL_ (some 20) rfl rfl Tryd.func23 (by kernel_rfl) rfl #[.int .i64 a0] rfl (by (try simp only [List.map_toArray, List.map_cons, List.map_nil]); first | done | rfl | (simp only [List.length_drop, List.length_take]; rfl)) ?_; (with_reducible refine (galoisref22_Identity.calls k a0 t274 _ A5.out).mono ?_); rintro e w8 ⟨v275, rfl, ho0, hb⟩; refine ⟨_, rfl, ?_⟩; have n0_ := Aside0.mk (Kd.R_lower ho0 (below_size (by repeat (first | (with_reducible first | exact HB.out | apply below_alloc | apply pw_below_drewN | apply below_drew1) | exact HB.out)))); have n1_ := Aside0.mk (below_step (by repeat (first | (with_reducible first | exact HB.out | apply below_alloc | apply pw_below_drewN | apply below_drew1) | exact HB.out)) hb); clear HB; have HO276 := n0_; have HB := n1_; clear n0_ n1_; (try clear hb); (try clear hb2); (try clear hk); (try clear hi); (try clear ho0)) | ((with_reducible refine gate_dst (N := 22) rfl ?_); refine Kd.R_make Kd.bool _ 4 rfl (N := 22) rfl 75 _ _ rfl a0 rfl rfl Tryd.underlying75 (.bool false) 1 info4 rfl (by decide) (by omega) false (ok := fun _ => True) (okp := fun _ => True) rfl (fun _ hk => hk) trivial (of_decide_eq_true (by first | (with_reducible assumption) | assumption)) (Nat.le_trans (Nat.mul_le_mul_right _ (of_decide_eq_true (by first | (with_reducible assumption) | assumption) : a0.toNat ≤ 281474976710656)) (by omega)) (Below.refl _ _) (Nat.le_refl _) ?_; intro v278 w9 ho10 hb hg_ hnew_; clear hg_ hnew_; (first | rw [← Ny277.out] at ho10 | (simp only [Int.reduceToNat] at ho10; rw [← Ny277.out] at ho10)); have n0_ := Aside0.mk (Kd.R_below (by (with_reducible repeat (first | apply Kd.R_alloc | apply Kd.R_drewN | apply Kd.R_drew)); exact HO276.out) hb); have n1_ := Aside0.mk (Kd.R_lower ho10 (below_size (by repeat (first | (with_reducible first | exact HB.out | apply below_alloc | apply pw_below_drewN | apply below_drew1) | exact HB.out)))); have n2_ := Aside0.mk (below_step (by repeat (first | (with_reducible first | exact HB.out | apply below_alloc | apply pw_below_drewN | apply below_drew1) | exact HB.out)) hb); clear HO276; clear HB; have HO276 := n0_; have HO279 := n1_; have HB := n2_; clear n0_ n1_ n2_; clear hb ho10))
        go_loopg [9] k (fun kq v9 w' => ∃ (x8_1 : List Bool) (x9_1 : Int), v9 = .int .i64 x9_1 ∧ Aside0 (galoisref22_FromCycles.l0 kq a0 l1 t274 x8_1 x9_1 = some (r1, r2)) ∧ Aside0 (kq ≤ k) ∧ Aside0 (Kd.R (Kd.int .i64) 3 w' w.heap.size (fun _ => True) v275 t274) ∧ Aside0 (Kd.R Kd.bool 4 w' w.heap.size (fun _ => True) v278 x8_1) ∧ Aside0 (Below w.heap.size w w'))
        case atStart => exact ⟨(y277), (0), (by first | rfl | (simp; done) | (simp [*]; done)), H', ⟨Nat.le_refl _⟩, ⟨by (with_reducible repeat (first | apply Kd.R_alloc | apply Kd.R_drewN | apply Kd.R_drew)); exact HO276.out⟩, ⟨by (with_reducible repeat (first | apply Kd.R_alloc | apply Kd.R_drewN | apply Kd.R_drew)); exact HO279.out⟩, ⟨by repeat (first | (with_reducible first | exact HB.out | apply below_alloc | apply pw_below_drewN | apply below_drew1) | exact HB.out)⟩⟩
        case round =>
          clear H'
          try clear c1
          try clear c2
          try clear p2
          try clear c4
          try clear c4b0
          try clear c4b1
          try clear c6
          try clear c6b0
          try clear c6b1
          try clear c7
          try clear c7b0
          try clear c7b1
          obtain ⟨x8_1, x9_1, rfl, HA, HK1, HO_7, HO_8, HB⟩ := hrel
          cases gk with
          | zero => exact absurd HA.out (by simp [galoisref22_FromCycles.l0])
          | succ k1 =>
            have H := HA.out
            clear HA
            simp only [galoisref22_FromCycles.l0] at H
            by_cases c11 : x9_1 < (l1.length : Int)
            · rw [if_pos c11] at H
              have c11b0 : decide (x9_1 < (l1.length : Int)) = true := decide_eq_true c11
              clear c11
              have H' := Aside0.mk H
              clear H
              go_wp2
              go_loopg [10] k1 (fun kq v10 w' => ∃ (x8_2 : List Bool) (x10_2 : Int), v10 = .int .i64 x10_2 ∧ Aside0 (galoisref22_FromCycles.l1 kq a0 l1 t274 x8_2 x9_1 x10_2 = some (r1, r2)) ∧ Aside0 (kq ≤ k1) ∧ Aside0 (Kd.R (Kd.int .i64) 3 w' w.heap.size (fun _ => True) v275 t274) ∧ Aside0 (Kd.R Kd.bool 4 w' w.heap.size (fun _ => True) v278 x8_2) ∧ Aside0 (Below w.heap.size w w'))
              case atStart => exact ⟨(x8_1), (0), (by first | rfl | (simp; done) | (simp [*]; done)), H', ⟨Nat.le_refl _⟩, ⟨by (with_reducible repeat (first | apply Kd.R_alloc | apply Kd.R_drewN | apply Kd.R_drew)); exact HO_7.out⟩, ⟨by (with_reducible repeat (first | apply Kd.R_alloc | apply Kd.R_drewN | apply Kd.R_drew)); exact HO_8.out⟩, ⟨by repeat (first | (with_reducible first | exact HB.out | apply below_alloc | apply pw_below_drewN | apply below_drew1) | exact HB.out)⟩⟩
              case round =>
                clear H'
                try clear c1
                try clear c2
                try clear p2
                try clear c4
                try clear c4b0
                try clear c4b1
                try clear c6
                try clear c6b0
                try clear c6b1
                try clear c7
                try clear c7b0
                try clear c7b1
                try clear c11
                try clear c11b0
                try clear p2
                obtain ⟨x8_2, x10_2, rfl, HA, HK2, HO_7, HO_8, HB⟩ := hrel
                cases gk with
                | zero => exact absurd HA.out (by simp [galoisref22_FromCycles.l1])
                | succ k2 =>
                  have H := HA.out
                  clear HA
                  simp only [galoisref22_FromCycles.l1] at H
                  by_cases c12 : 0 ≤ x9_1
                  · rw [if_pos c12] at H
                    have c12b0 : decide (0 ≤ x9_1) = true := decide_eq_true c12
                    clear c12
                    by_cases c13 : x9_1 < (l1.length : Int)
                    · rw [if_pos c13] at H
                      have c13b0 : decide (x9_1 < (l1.length : Int)) = true := decide_eq_true c13
                      clear c13
                      by_cases c14 : x10_2 < ((rd_L1 l1 x9_1).length : Int)
                      · rw [if_pos c14] at H
                        have c14b0 : decide (x10_2 < ((rd_L1 l1 x9_1).length : Int)) = true := decide_eq_true c14
                        clear c14
                        by_cases c15 : 0 ≤ x10_2
                        · rw [if_pos c15] at H
                          have c15b0 : decide (0 ≤ x10_2) = true := decide_eq_true c15
                          clear c15
                          have HC16 := Aside0.mk H
                          clear H
                          have p280 : 0 ≤ (x9_1 : Int) := of_decide_eq_true (by first | (with_reducible assumption) | assumption)
                          have q280 : x9_1 < (l1.length : Int) := of_decide_eq_true (by first | (with_reducible assumption) | assumption)
                          obtain ⟨ad280, A280_0, c280_0, e280, hx280_0, hl280_0, hi280_0⟩ := at_L1 HR1.out x9_1 p280 q280
                          cases e280
                          try (replace hx280_0 := (HB.out.cell (World.block_lt_of_cell? w _ hx280_0)).trans hx280_0)
                          have HR280_0 := Aside0.mk hi280_0
                          have HC280_0 := Aside0.mk hl280_0
                          clear hi280_0 hl280_0
                          replace p280 := eq_true p280
                          replace q280 := eq_true q280
                          have p281 : 0 ≤ (x9_1 : Int) := of_decide_eq_true (by first | (with_reducible assumption) | assumption)
                          have q281 : x9_1 < (l1.length : Int) := of_decide_eq_true (by first | (with_reducible assumption) | assumption)
                          obtain ⟨ad281, A281_0, c281_0, e281, hx281_0, hl281_0, hi281_0⟩ := at_L1 HR1.out x9_1 p281 q281
                          obtain rfl : ad280 = ad281 := (by injection e281)
                          try (replace hx281_0 := (HB.out.cell (World.block_lt_of_cell? w _ hx281_0)).trans hx281_0)
                          have HR281_0 := Aside0.mk hi281_0
                          have HC281_0 := Aside0.mk hl281_0
                          clear hi281_0 hl281_0
                          replace p281 := eq_true p281
                          replace q281 := eq_true q281
                          have ea_ := Option.some.inj (hx280_0.symm.trans hx281_0)
                          injection ea_ with ea_ en_ ec_
                          subst ea_
                          subst ec_
                          clear en_
                          have p282 : 0 ≤ (x10_2 : Int) := of_decide_eq_true (by first | (with_reducible assumption) | assumption)
                          have q282 : x10_2 < ((rd_L1 l1 x9_1).length : Int) := of_decide_eq_true (by first | (with_reducible assumption) | assumption)
                          obtain ⟨ad282, e282, hx282_0⟩ := Kd.at_int HR281_0.out x10_2 p282 q282
                          cases e282
                          try (replace hx282_0 := (HB.out.cell (World.block_lt_of_cell? w _ hx282_0)).trans hx282_0)
                          replace p282 := eq_true p282
                          replace q282 := eq_true q282
                          go_upto_region 13 with (fail)
                          go_cut [51] (fun v51 wc => ∃ (kq : Nat) (x51_15 : Bool), v51 = .bool x51_15 ∧ Aside0 (galoisref22_FromCycles.j2 kq a0 l1 t274 x8_2 x9_1 x10_2 (rd (rd_L1 l1 x9_1) x10_2) x51_15 = some (r1, r2)) ∧ Aside0 (kq ≤ k2) ∧ Aside0 (Kd.R (Kd.int .i64) 3 wc w.heap.size (fun _ => True) v275 t274) ∧ Aside0 (Kd.R Kd.bool 4 wc w.heap.size (fun _ => True) v278 x8_2) ∧ Aside0 (Below w.heap.size w wc))
                          case first =>
                            have H := HC16.out
                            clear HC16
                            by_cases c17 : (rd (rd_L1 l1 x9_1) x10_2) < 0
                            · rw [if_pos c17] at H
                              have c17b0 : decide ((rd (rd_L1 l1 x9_1) x10_2) < 0) = true := decide_eq_true c17
                              clear c17
                              (first | rw [c17b0] | (simp only [i64_w, i32_w]; rw [c17b0]) | skip)
                              have H' := Aside0.mk H
                              clear H
                              go_wp2
                              go_meet
                              case rel => exact ⟨_, (true), (by first | rfl | (simp; done) | (simp [*]; done)), H', ⟨by have := HK1.out; have := HK2.out; first | omega | exact Nat.le_refl _⟩, ⟨by (with_reducible repeat (first | apply Kd.R_alloc | apply Kd.R_drewN | apply Kd.R_drew)); exact HO_7.out⟩, ⟨by (with_reducible repeat (first | apply Kd.R_alloc | apply Kd.R_drewN | apply Kd.R_drew)); exact HO_8.out⟩, ⟨by repeat (first | (with_reducible first | exact HB.out | apply below_alloc | apply pw_below_drewN | apply below_drew1) | exact HB.out)⟩⟩
                            · rw [if_neg c17] at H
                              have c17b0 : decide ((rd (rd_L1 l1 x9_1) x10_2) < 0) = false := decide_eq_false c17
                              clear c17
                              (first | rw [c17b0] | (simp only [i64_w, i32_w]; rw [c17b0]) | skip)
                              have H' := Aside0.mk H
                              clear H
                              go_wp2
                              go_meet
                              case rel => exact ⟨_, (decide ((rd (rd_L1 l1 x9_1) x10_2) ≥ a0)), (by first | rfl | (simp; done) | (simp [*]; done)), H', ⟨by have := HK1.out; have := HK2.out; first | omega | exact Nat.le_refl _⟩, ⟨by (with_reducible repeat (first | apply Kd.R_alloc | apply Kd.R_drewN | apply Kd.R_drew)); exact HO_7.out⟩, ⟨by (with_reducible repeat (first | apply Kd.R_alloc | apply Kd.R_drewN | apply Kd.R_drew)); exact HO_8.out⟩, ⟨by repeat (first | (with_reducible first | exact HB.out | apply below_alloc | apply pw_below_drewN | apply below_drew1) | exact HB.out)⟩⟩
                          case rest =>
                            clear HC16
                            try clear c1
                            try clear c2
                            try clear p2
                            try clear q2
                            try clear hx2
                            try clear c4
                            try clear c4b0
                            try clear c4b1
                            try clear c6
                            try clear c6b0
                            try clear c6b1
                            try clear c7
                            try clear c7b0
                            try clear c7b1
                            try clear c11
                            try clear c11b0
                            try clear c12
                            try clear c12b0
                            try clear c13
                            try clear c13b0
                            try clear c14
                            try clear c14b0
                            try clear c15
                            try clear c15b0
                            try clear c17
                            try clear c17b0
                            try clear hx280_0
                            try clear hx281_0
                            try clear hx282_0
                            try clear p2
                            try clear p280
                            try clear p281
                            try clear p282
                            try clear q280
                            try clear q281
                            try clear q282
                            obtain ⟨kq, x51_15, rfl, HA, HJ15, HO_7, HO_8, HB⟩ := hcut
                            cases kq with
                            | zero => exact absurd HA.out (by simp [galoisref22_FromCycles.j2])
                            | succ kj15 =>
                              have H := HA.out
                              clear HA
                              simp only [galoisref22_FromCycles.j2] at H
                              by_cases c18 : x51_15 = true
                              · subst c18
                                have H1 : (some (([] : List Int), 3)) = some (r1, r2) := by rw [if_pos rfl] at H; exact H
                                clear H
                                have H := H1
                                clear H1
                                simp only [Option.some.injEq, Prod.mk.injEq] at H
                                obtain ⟨rfl, rfl⟩ := H
                                go_wp2
                                go_ret2
                                exact ⟨_, by first | rfl | (simp [errW_none, errW_some] <;> rfl) | (simp [*, errW_none, errW_some] <;> rfl), by first | exact Kd.R_nil _ _ _ _ _ | exact Kd.N_nil _ _ _ _ _ | exact Kd.V_nil _ _ _ _ _ | exact Kd.Q_nil _ _ _ _ _ | exact Kd.S_nil _ _ _ _ _, by repeat (first | (with_reducible first | exact HB.out | apply below_alloc | apply pw_below_drewN | apply below_drew1) | exact HB.out)⟩
                              · replace c18 := Bool.eq_false_iff.mpr c18
                                subst c18
                                have H1 : (if 0 ≤ (rd (rd_L1 l1 x9_1) x10_2) then (if (rd (rd_L1 l1 x9_1) x10_2) < (x8_2.length : Int) then (if rdOf false x8_2 (rd (rd_L1 l1 x9_1) x10_2) = true then (some (([] : List Int), 24)) else (galoisref22_FromCycles.l1 kj15 a0 l1 t274 (x8_2.set ((rd (rd_L1 l1 x9_1) x10_2) : Int).toNat true) x9_1 (wrap64 (x10_2 + 1)))) else (none)) else (none)) = some (r1, r2) := by rw [if_neg (show ¬ (false = true) by decide)] at H; exact H
                                clear H
                                have H := H1
                                clear H1
                                by_cases c19 : 0 ≤ (rd (rd_L1 l1 x9_1) x10_2)
                                · rw [if_pos c19] at H
                                  have c19b0 : decide (0 ≤ (rd (rd_L1 l1 x9_1) x10_2)) = true := decide_eq_true c19
                                  clear c19
                                  by_cases c20 : (rd (rd_L1 l1 x9_1) x10_2) < (x8_2.length : Int)
                                  · rw [if_pos c20] at H
                                    have c20b0 : decide ((rd (rd_L1 l1 x9_1) x10_2) < (x8_2.length : Int)) = true := decide_eq_true c20
                                    clear c20
                                    obtain ⟨bq21, hbq21⟩ : ∃ b_ : Bool, b_ = (rdOf false x8_2 (rd (rd_L1 l1 x9_1) x10_2)) := ⟨_, rfl⟩
                                    replace H : (if bq21 = true then (some (([] : List Int), 24)) else (galoisref22_FromCycles.l1 kj15 a0 l1 t274 (x8_2.set ((rd (rd_L1 l1 x9_1) x10_2) : Int).toNat true) x9_1 (wrap64 (x10_2 + 1)))) = some (r1, r2) := by rw [← hbq21] at H; exact H
                                    have Nbq21 := Aside0.mk hbq21
                                    clear hbq21
                                    by_cases c22 : bq21 = true
                                    · subst c22
                                      have H1 : (some (([] : List Int), 24)) = some (r1, r2) := by rw [if_pos rfl] at H; exact H
                                      clear H
                                      have H := H1
                                      clear H1
                                      simp only [Option.some.injEq, Prod.mk.injEq] at H
                                      obtain ⟨rfl, rfl⟩ := H
                                      obtain ⟨Ao23, co23, eo23⟩ := Kd.R_slice HO_8.out
                                      subst eo23
                                      have p283 : 0 ≤ ((rd (rd_L1 l1 x9_1) x10_2) : Int) := of_decide_eq_true (by first | (with_reducible assumption) | assumption)
                                      have q283 : (rd (rd_L1 l1 x9_1) x10_2) < (x8_2.length : Int) := of_decide_eq_true (by first | (with_reducible assumption) | assumption)
                                      obtain ⟨ad283, e283, hx283_0⟩ := Kd.at_bool (Kd.R_reads' HO_8.out).2.2 (rd (rd_L1 l1 x9_1) x10_2) p283 q283
                                      (try rw [← Nbq21.out] at hx283_0)
                                      cases e283
                                      replace p283 := eq_true p283
                                      replace q283 := eq_true q283
                                      go_wp2
                                      go_ret2
                                      exact ⟨_, by first | rfl | (simp [errW_none, errW_some] <;> rfl) | (simp [*, errW_none, errW_some] <;> rfl), by first | exact Kd.R_nil _ _ _ _ _ | exact Kd.N_nil _ _ _ _ _ | exact Kd.V_nil _ _ _ _ _ | exact Kd.Q_nil _ _ _ _ _ | exact Kd.S_nil _ _ _ _ _, by repeat (first | (with_reducible first | exact HB.out | apply below_alloc | apply pw_below_drewN | apply below_drew1) | exact HB.out)⟩
                                    · replace c22 := Bool.eq_false_iff.mpr c22
                                      subst c22
                                      have H1 : (galoisref22_FromCycles.l1 kj15 a0 l1 t274 (x8_2.set ((rd (rd_L1 l1 x9_1) x10_2) : Int).toNat true) x9_1 (wrap64 (x10_2 + 1))) = some (r1, r2) := by rw [if_neg (show ¬ (false = true) by decide)] at H; exact H
                                      clear H
                                      have H := H1
                                      clear H1
                                      obtain ⟨y284, hy284⟩ : ∃ y_ : List Bool, y_ = (x8_2.set ((rd (rd_L1 l1 x9_1) x10_2) : Int).toNat true) := ⟨_, rfl⟩
                                      replace H : (galoisref22_FromCycles.l1 kj15 a0 l1 t274 y284 x9_1 (wrap64 (x10_2 + 1))) = some (r1, r2) := by first | (rw [hy284]; with_reducible exact H) | (have H2_ := (Option.bind_some _ _).symm.trans H; rw [hy284]; with_reducible exact H2_) | (have H2_ := (Option.bind_some _ _).symm.trans H; with_reducible exact H2_) | with_reducible exact H | (rw [hy284]; exact H) | exact H
                                      have Ny284 := Aside0.mk hy284
                                      clear hy284
                                      have H' := Aside0.mk H
                                      clear H
                                      obtain ⟨Ao25, co25, eo25⟩ := Kd.R_slice HO_8.out
                                      subst eo25
                                      have p283 : 0 ≤ ((rd (rd_L1 l1 x9_1) x10_2) : Int) := of_decide_eq_true (by first | (with_reducible assumption) | assumption)
                                      have q283 : (rd (rd_L1 l1 x9_1) x10_2) < (x8_2.length : Int) := of_decide_eq_true (by first | (with_reducible assumption) | assumption)
                                      obtain ⟨ad283, e283, hx283_0⟩ := Kd.at_bool (Kd.R_reads' HO_8.out).2.2 (rd (rd_L1 l1 x9_1) x10_2) p283 q283
                                      (try rw [← Nbq21.out] at hx283_0)
                                      cases e283
                                      replace p283 := eq_true p283
                                      replace q283 := eq_true q283
                                      have p24 : 0 ≤ ((rd (rd_L1 l1 x9_1) x10_2) : Int) := of_decide_eq_true (by first | (with_reducible assumption) | assumption)
                                      have q24 : ((rd (rd_L1 l1 x9_1) x10_2) : Int) < ((x8_2.length : Int) : Int) := of_decide_eq_true (by first | (with_reducible assumption) | assumption)
                                      obtain ⟨go24, co24, eo24, gb24, gl24, cl24, HG24⟩ := Kd.R_form HO_8.out (by omega)
                                      (first | cases eo24 | (injection eo24 with ea_ en_ ec_; (first | subst ea_ | (injection ea_ with ea_; subst ea_)); subst ec_; clear en_))
                                      have GB24 := Aside0.mk gb24
                                      have GG24 := Aside0.mk HG24
                                      clear gb24 gl24 HG24
                                      (first | simp only [add_plain] at hx283_0 | skip)
                                      obtain ⟨hx24_0, hf24_0⟩ := Kd.R_celln false HO_8.out ((rd (rd_L1 l1 x9_1) x10_2) : Int) p24 q24
                                      replace p24 := eq_true p24
                                      replace q24 := eq_true q24
                                      have HP26 := Kd.R_putg HO_8.out ((rd (rd_L1 l1 x9_1) x10_2) : Int) true
                                      go_wp2_with (first | ((with_reducible refine gate_store (t := 4) (p := 58) rfl ?_); refine store_event (t := 4) (p := 58) (v := ?vo_w27) (w1 := (wc.setCell ⟨go24, ((rd (rd_L1 l1 x9_1) x10_2) : Int).toNat, none⟩ (.bool true))) ?hg ?ho ?hn ?hr ?_; (case ho => rfl); (case hg => rfl); (case hn => rfl); (case hr => first | (go_simp; done) | (go_simp; rfl)); intro w27 hw; have hg : wc.grownBy w27 (some go24) := (by rw [hw]; exact HP26.2); have hp_ : Kd.R Kd.bool 4 w27 w.heap.size (fun _ => True) (.slice (some ⟨go24, 0, none⟩) x8_2.length co25) y284 := (by rw [hw, Ny284.out]; exact HP26.1); clear HP26; have n0_ := Aside0.mk (Kd.R_over' (v := (.slice (some ⟨go24, 0, none⟩) x8_2.length co25)) (by (with_reducible repeat (first | apply Kd.R_alloc | apply Kd.R_drewN | apply Kd.R_drew)); exact HO_7.out) (Kd.R_typed HO_8.out) (by decide) hg); have n1_ := Aside0.mk (hp_); have n2_ := Aside0.mk ((by rw [hw]; exact below_set (HB.out) GB24.out : Below w.heap.size w w27)); clear HO_7; clear HO_8; clear HB; have HO_7 := n0_; have HO_8 := n1_; have HB := n2_; clear n0_ n1_ n2_; clear hg hw hp_))
                                      go_roundg kj15
                                      case measure => have := HK1.out; have := HK2.out; have := HJ15.out; omega
                                      case rel => exact ⟨(y284), (wrap64 (x10_2 + 1)), (by first | rfl | (simp; done) | (simp [*]; done)), H', ⟨by have := HK1.out; have := HK2.out; have := HJ15.out; omega⟩, ⟨by (with_reducible repeat (first | apply Kd.R_alloc | apply Kd.R_drewN | apply Kd.R_drew)); exact HO_7.out⟩, ⟨by (with_reducible repeat (first | apply Kd.R_alloc | apply Kd.R_drewN | apply Kd.R_drew)); exact HO_8.out⟩, ⟨by repeat (first | (with_reducible first | exact HB.out | apply below_alloc | apply pw_below_drewN | apply below_drew1) | exact HB.out)⟩⟩
                                  · rw [if_neg c20] at H
                                    exact absurd H (by simp)
                                · rw [if_neg c19] at H
                                  exact absurd H (by simp)
                        · rw [if_neg c15] at H
                          exact absurd H (by simp)
                      · rw [if_neg c14] at H
                        have c14b0 : decide (x10_2 < ((rd_L1 l1 x9_1).length : Int)) = false := decide_eq_false c14
                        clear c14
                        have H' := Aside0.mk H
                        clear H
                        have p280 : 0 ≤ (x9_1 : Int) := of_decide_eq_true (by first | (with_reducible assumption) | assumption)
                        have q280 : x9_1 < (l1.length : Int) := of_decide_eq_true (by first | (with_reducible assumption) | assumption)
                        obtain ⟨ad280, A280_0, c280_0, e280, hx280_0, hl280_0, hi280_0⟩ := at_L1 HR1.out x9_1 p280 q280
                        cases e280
                        try (replace hx280_0 := (HB.out.cell (World.block_lt_of_cell? w _ hx280_0)).trans hx280_0)
                        have HR280_0 := Aside0.mk hi280_0
                        have HC280_0 := Aside0.mk hl280_0
                        clear hi280_0 hl280_0
                        replace p280 := eq_true p280
                        replace q280 := eq_true q280
                        go_wp2
                        go_roundg k2
                        case measure => have := HK1.out; have := HK2.out; omega
                        case rel => exact ⟨(x8_2), (wrap64 (x9_1 + 1)), (by first | rfl | (simp; done) | (simp [*]; done)), H', ⟨by have := HK1.out; have := HK2.out; omega⟩, ⟨by (with_reducible repeat (first | apply Kd.R_alloc | apply Kd.R_drewN | apply Kd.R_drew)); exact HO_7.out⟩, ⟨by (with_reducible repeat (first | apply Kd.R_alloc | apply Kd.R_drewN | apply Kd.R_drew)); exact HO_8.out⟩, ⟨by repeat (first | (with_reducible first | exact HB.out | apply below_alloc | apply pw_below_drewN | apply below_drew1) | exact HB.out)⟩⟩
                    · rw [if_neg c13] at H
                      exact absurd H (by simp)
                  · rw [if_neg c12] at H
                    exact absurd H (by simp)
            · rw [if_neg c11] at H
              have c11b0 : decide (x9_1 < (l1.length : Int)) = false := decide_eq_false c11
              clear c11
              have H' := Aside0.mk H
              clear H
              go_wp2
              go_loopg [12] k1 (fun kq v12 w' => ∃ (x7_2 : List Int) (x12_2 : Int), v12 = .int .i64 x12_2 ∧ Aside0 (galoisref22_FromCycles.l2 kq l1 x7_2 x12_2 = some (r1, r2)) ∧ Aside0 (kq ≤ k1) ∧ Aside0 (Kd.R (Kd.int .i64) 3 w' w.heap.size (fun _ => True) v275 x7_2) ∧ Aside0 (Below w.heap.size w w'))
              case atStart => exact ⟨(t274), (0), (by first | rfl | (simp; done) | (simp [*]; done)), H', ⟨Nat.le_refl _⟩, ⟨by (with_reducible repeat (first | apply Kd.R_alloc | apply Kd.R_drewN | apply Kd.R_drew)); exact HO_7.out⟩, ⟨by repeat (first | (with_reducible first | exact HB.out | apply below_alloc | apply pw_below_drewN | apply below_drew1) | exact HB.out)⟩⟩
              case round =>
                clear H'
                try clear c1
                try clear c2
                try clear p2
                try clear q2
                try clear hx2
                try clear hf2
                try clear c4
                try clear c4b0
                try clear c4b1
                try clear c6
                try clear c6b0
                try clear c6b1
                try clear p6
                try clear c7
                try clear c7b0
                try clear c7b1
                try clear c11
                try clear c11b0
                try clear c12
                try clear c12b0
                try clear c13
                try clear c13b0
                try clear c14
                try clear c14b0
                try clear c15
                try clear c15b0
                try clear c17
                try clear c17b0
                try clear c18
                try clear c19
                try clear c19b0
                try clear c20
                try clear c20b0
                try clear c21
                try clear q21
                try clear c22
                try clear c23
                try clear p24
                try clear q24
                try clear hx24
                try clear hf24
                try clear hx24_0
                try clear hx280_0
                try clear hx281_0
                try clear hx282_0
                try clear hx283_0
                try clear p2
                try clear p24
                try clear p280
                try clear p281
                try clear p282
                try clear p283
                try clear q2
                try clear q24
                try clear q280
                try clear q281
                try clear q282
                try clear q283
                obtain ⟨x7_2, x12_2, rfl, HA, HK2, HO_7, HB⟩ := hrel
                cases gk with
                | zero => exact absurd HA.out (by simp [galoisref22_FromCycles.l2])
                | succ k2 =>
                  have H := HA.out
                  clear HA
                  simp only [galoisref22_FromCycles.l2] at H
                  by_cases c28 : x12_2 < (l1.length : Int)
                  · rw [if_pos c28] at H
                    have c28b0 : decide (x12_2 < (l1.length : Int)) = true := decide_eq_true c28
                    clear c28
                    have H' := Aside0.mk H
                    clear H
                    go_wp2
                    go_loopg [13] k2 (fun kq v13 w' => ∃ (x7_3 : List Int) (x13_3 : Int), v13 = .int .i64 x13_3 ∧ Aside0 (galoisref22_FromCycles.l3 kq l1 x7_3 x12_2 x13_3 = some (r1, r2)) ∧ Aside0 (kq ≤ k2) ∧ Aside0 (Kd.R (Kd.int .i64) 3 w' w.heap.size (fun _ => True) v275 x7_3) ∧ Aside0 (Below w.heap.size w w'))
                    case atStart => exact ⟨(x7_2), (0), (by first | rfl | (simp; done) | (simp [*]; done)), H', ⟨Nat.le_refl _⟩, ⟨by (with_reducible repeat (first | apply Kd.R_alloc | apply Kd.R_drewN | apply Kd.R_drew)); exact HO_7.out⟩, ⟨by repeat (first | (with_reducible first | exact HB.out | apply below_alloc | apply pw_below_drewN | apply below_drew1) | exact HB.out)⟩⟩
                    case round =>
                      clear H'
                      try clear c1
                      try clear c2
                      try clear p2
                      try clear q2
                      try clear hx2
                      try clear hf2
                      try clear c4
                      try clear c4b0
                      try clear c4b1
                      try clear c6
                      try clear c6b0
                      try clear c6b1
                      try clear p6
                      try clear c7
                      try clear c7b0
                      try clear c7b1
                      try clear c11
                      try clear c11b0
                      try clear c12
                      try clear c12b0
                      try clear c13
                      try clear c13b0
                      try clear c14
                      try clear c14b0
                      try clear c15
                      try clear c15b0
                      try clear c17
                      try clear c17b0
                      try clear c18
                      try clear c19
                      try clear c19b0
                      try clear c20
                      try clear c20b0
                      try clear c21
                      try clear q21
                      try clear c22
                      try clear c23
                      try clear p24
                      try clear q24
                      try clear hx24
                      try clear hf24
                      try clear c28
                      try clear c28b0
                      try clear p28
                      try clear q28
                      try clear hx28
                      try clear hx24_0
                      try clear hx280_0
                      try clear hx281_0
                      try clear hx282_0
                      try clear hx283_0
                      try clear p2
                      try clear p24
                      try clear p280
                      try clear p281
                      try clear p282
                      try clear p283
                      try clear p6
                      try clear q2
                      try clear q21
                      try clear q24
                      try clear q280
                      try clear q281
                      try clear q282
                      try clear q283
                      obtain ⟨x7_3, x13_3, rfl, HA, HK3, HO_7, HB⟩ := hrel
                      cases gk with
                      | zero => exact absurd HA.out (by simp [galoisref22_FromCycles.l3])
                      | succ k3 =>
                        have H := HA.out
                        clear HA
                        simp only [galoisref22_FromCycles.l3] at H
                        by_cases c29 : 0 ≤ x12_2
                        · rw [if_pos c29] at H
                          have c29b0 : decide (0 ≤ x12_2) = true := decide_eq_true c29
                          clear c29
                          by_cases c30 : x12_2 < (l1.length : Int)
                          · rw [if_pos c30] at H
                            have c30b0 : decide (x12_2 < (l1.length : Int)) = true := decide_eq_true c30
                            clear c30
                            by_cases c31 : x13_3 < ((rd_L1 l1 x12_2).length : Int)
                            · rw [if_pos c31] at H
                              have c31b0 : decide (x13_3 < ((rd_L1 l1 x12_2).length : Int)) = true := decide_eq_true c31
                              clear c31
                              by_cases c32 : 0 ≤ x13_3
                              · rw [if_pos c32] at H
                                have c32b0 : decide (0 ≤ x13_3) = true := decide_eq_true c32
                                clear c32
                                by_cases c33 : ((rd_L1 l1 x12_2).length : Int) = 0
                                · rw [if_pos c33] at H
                                  exact absurd H (by simp)
                                · rw [if_neg c33] at H
                                  have c33b0 : (((rd_L1 l1 x12_2).length : Int) == 0) = false := beq_eq_false_iff_ne.mpr c33
                                  have c33b1 : (((rd_L1 l1 x12_2).length : Int) != 0) = true := bne_iff_ne.mpr c33
                                  have c33b2 : ¬ ((rd_L1 l1 x12_2) = []) := fun h_ => c33 (by rw [h_]; rfl)
                                  obtain ⟨ji34, hji34⟩ : ∃ j_ : Int, (Int.tmod (wrap64 (x13_3 + 1)) ((rd_L1 l1 x12_2).length : Int)) = j_ := ⟨_, rfl⟩
                                  replace H : (if 0 ≤ (ji34) then (if (ji34) < ((rd_L1 l1 x12_2).length : Int) then (if 0 ≤ (rd (rd_L1 l1 x12_2) x13_3) then (if (rd (rd_L1 l1 x12_2) x13_3) < (x7_3.length : Int) then (galoisref22_FromCycles.l3 k3 l1 (x7_3.set ((rd (rd_L1 l1 x12_2) x13_3) : Int).toNat (rd (rd_L1 l1 x12_2) (ji34))) x12_2 (wrap64 (x13_3 + 1))) else (none)) else (none)) else (none)) else (none)) = some (r1, r2) := by first | (rw [hji34] at H; exact H) | (simp only [hji34] at H ⊢; exact H)
                                  by_cases c35 : 0 ≤ (ji34)
                                  · rw [if_pos c35] at H
                                    have c35b0 : decide (0 ≤ (ji34)) = true := decide_eq_true c35
                                    clear c35
                                    by_cases c36 : (ji34) < ((rd_L1 l1 x12_2).length : Int)
                                    · rw [if_pos c36] at H
                                      have c36b0 : decide ((ji34) < ((rd_L1 l1 x12_2).length : Int)) = true := decide_eq_true c36
                                      clear c36
                                      by_cases c37 : 0 ≤ (rd (rd_L1 l1 x12_2) x13_3)
                                      · rw [if_pos c37] at H
                                        have c37b0 : decide (0 ≤ (rd (rd_L1 l1 x12_2) x13_3)) = true := decide_eq_true c37
                                        clear c37
                                        by_cases c38 : (rd (rd_L1 l1 x12_2) x13_3) < (x7_3.length : Int)
                                        · rw [if_pos c38] at H
                                          have c38b0 : decide ((rd (rd_L1 l1 x12_2) x13_3) < (x7_3.length : Int)) = true := decide_eq_true c38
                                          clear c38
                                          obtain ⟨y291, hy291⟩ : ∃ y_ : List Int, y_ = (x7_3.set ((rd (rd_L1 l1 x12_2) x13_3) : Int).toNat (rd (rd_L1 l1 x12_2) (ji34))) := ⟨_, rfl⟩
                                          replace H : (galoisref22_FromCycles.l3 k3 l1 y291 x12_2 (wrap64 (x13_3 + 1))) = some (r1, r2) := by first | (rw [hy291]; with_reducible exact H) | (have H2_ := (Option.bind_some _ _).symm.trans H; rw [hy291]; with_reducible exact H2_) | (have H2_ := (Option.bind_some _ _).symm.trans H; with_reducible exact H2_) | with_reducible exact H | (rw [hy291]; exact H) | exact H
                                          have Ny291 := Aside0.mk hy291
                                          clear hy291
                                          have H' := Aside0.mk H
                                          clear H
                                          have p285 : 0 ≤ (x12_2 : Int) := of_decide_eq_true (by first | (with_reducible assumption) | assumption)
                                          have q285 : x12_2 < (l1.length : Int) := of_decide_eq_true (by first | (with_reducible assumption) | assumption)
                                          obtain ⟨ad285, A285_0, c285_0, e285, hx285_0, hl285_0, hi285_0⟩ := at_L1 HR1.out x12_2 p285 q285
                                          cases e285
                                          try (replace hx285_0 := (HB.out.cell (World.block_lt_of_cell? w _ hx285_0)).trans hx285_0)
                                          have HR285_0 := Aside0.mk hi285_0
                                          have HC285_0 := Aside0.mk hl285_0
                                          clear hi285_0 hl285_0
                                          replace p285 := eq_true p285
                                          replace q285 := eq_true q285
                                          try go_wp2
                                          have n0_ := Aside0.mk (Kd.R_drew HO_7.out)
                                          have n1_ := Aside0.mk (below_drew1 HB.out)
                                          clear HO_7
                                          clear HB
                                          have HO_7 := n0_
                                          have HB := n1_
                                          clear n0_ n1_
                                          have p286 : 0 ≤ (x12_2 : Int) := of_decide_eq_true (by first | (with_reducible assumption) | assumption)
                                          have q286 : x12_2 < (l1.length : Int) := of_decide_eq_true (by first | (with_reducible assumption) | assumption)
                                          obtain ⟨ad286, A286_0, c286_0, e286, hx286_0, hl286_0, hi286_0⟩ := at_L1 HR1.out x12_2 p286 q286
                                          have hw286_0 := hx286_0
                                          obtain rfl : ad285 = ad286 := (by injection e286)
                                          try (replace hx286_0 := (HB.out.cell (World.block_lt_of_cell? w _ hx286_0)).trans hx286_0)
                                          have HR286_0 := Aside0.mk hi286_0
                                          have HC286_0 := Aside0.mk hl286_0
                                          clear hi286_0 hl286_0
                                          replace p286 := eq_true p286
                                          replace q286 := eq_true q286
                                          have p287 : 0 ≤ (x13_3 : Int) := of_decide_eq_true (by first | (with_reducible assumption) | assumption)
                                          have q287 : x13_3 < ((rd_L1 l1 x12_2).length : Int) := of_decide_eq_true (by first | (with_reducible assumption) | assumption)
                                          obtain ⟨ad287, e287, hx287_0⟩ := Kd.at_int HR286_0.out x13_3 p287 q287
                                          have hw287_0 := hx287_0
                                          cases e287
                                          try (replace hx287_0 := (HB.out.cell (World.block_lt_of_cell? w _ hx287_0)).trans hx287_0)
                                          replace p287 := eq_true p287
                                          replace q287 := eq_true q287
                                          have p288 : 0 ≤ (x12_2 : Int) := of_decide_eq_true (by first | (with_reducible assumption) | assumption)
                                          have q288 : x12_2 < (l1.length : Int) := of_decide_eq_true (by first | (with_reducible assumption) | assumption)
                                          obtain ⟨ad288, A288_0, c288_0, e288, hx288_0, hl288_0, hi288_0⟩ := at_L1 HR1.out x12_2 p288 q288
                                          have hw288_0 := hx288_0
                                          obtain rfl : ad285 = ad288 := (by injection e288)
                                          try (replace hx288_0 := (HB.out.cell (World.block_lt_of_cell? w _ hx288_0)).trans hx288_0)
                                          have HR288_0 := Aside0.mk hi288_0
                                          have HC288_0 := Aside0.mk hl288_0
                                          clear hi288_0 hl288_0
                                          replace p288 := eq_true p288
                                          replace q288 := eq_true q288
                                          have ea_ := Option.some.inj (hx286_0.symm.trans hx288_0)
                                          injection ea_ with ea_ en_ ec_
                                          subst ea_
                                          subst ec_
                                          clear en_
                                          have p289 : 0 ≤ (x12_2 : Int) := of_decide_eq_true (by first | (with_reducible assumption) | assumption)
                                          have q289 : x12_2 < (l1.length : Int) := of_decide_eq_true (by first | (with_reducible assumption) | assumption)
                                          obtain ⟨ad289, A289_0, c289_0, e289, hx289_0, hl289_0, hi289_0⟩ := at_L1 HR1.out x12_2 p289 q289
                                          have hw289_0 := hx289_0
                                          obtain rfl : ad285 = ad289 := (by injection e289)
                                          try (replace hx289_0 := (HB.out.cell (World.block_lt_of_cell? w _ hx289_0)).trans hx289_0)
                                          have HR289_0 := Aside0.mk hi289_0
                                          have HC289_0 := Aside0.mk hl289_0
                                          clear hi289_0 hl289_0
                                          replace p289 := eq_true p289
                                          replace q289 := eq_true q289
                                          have ea_ := Option.some.inj (hx286_0.symm.trans hx289_0)
                                          injection ea_ with ea_ en_ ec_
                                          subst ea_
                                          subst ec_
                                          clear en_
                                          have p290 : 0 ≤ ((ji34) : Int) := of_decide_eq_true (by first | (with_reducible assumption) | assumption)
                                          have q290 : (ji34) < ((rd_L1 l1 x12_2).length : Int) := of_decide_eq_true (by first | (with_reducible assumption) | assumption)
                                          obtain ⟨ad290, e290, hx290_0⟩ := Kd.at_int HR288_0.out (ji34) p290 q290
                                          have hw290_0 := hx290_0
                                          cases e290
                                          try (replace hx290_0 := (HB.out.cell (World.block_lt_of_cell? w _ hx290_0)).trans hx290_0)
                                          replace p290 := eq_true p290
                                          replace q290 := eq_true q290
                                          have p39 : 0 ≤ ((rd (rd_L1 l1 x12_2) x13_3) : Int) := of_decide_eq_true (by first | (with_reducible assumption) | assumption)
                                          have q39 : ((rd (rd_L1 l1 x12_2) x13_3) : Int) < ((x7_3.length : Int) : Int) := of_decide_eq_true (by first | (with_reducible assumption) | assumption)
                                          obtain ⟨go39, co39, eo39, gb39, gl39, cl39, HG39⟩ := Kd.R_form HO_7.out (by omega)
                                          (first | cases eo39 | (injection eo39 with ea_ en_ ec_; (first | subst ea_ | (injection ea_ with ea_; subst ea_)); subst ec_; clear en_))
                                          have GB39 := Aside0.mk gb39
                                          have GG39 := Aside0.mk HG39
                                          clear gb39 gl39 HG39
                                          obtain ⟨hx39_0, hf39_0⟩ := Kd.R_celln 0 HO_7.out ((rd (rd_L1 l1 x12_2) x13_3) : Int) p39 q39
                                          replace p39 := eq_true p39
                                          replace q39 := eq_true q39
                                          have HP41 := Kd.R_putn HO_7.out ((rd (rd_L1 l1 x12_2) x13_3) : Int) (rd (rd_L1 l1 x12_2) (ji34))
                                          rw [← Ny291.out] at HP41
                                          have HQ41 := Aside0.mk HP41
                                          clear HP41
                                          refine start_ (n := 24) (S := fun w' => w'.cell? (ad285.add (x12_2).toNat) = some (.slice (some ad287) (rd_L1 l1 x12_2).length c286_0) ∧ w'.cell? (ad287.add (x13_3).toNat) = some (.int .i64 (rd (rd_L1 l1 x12_2) x13_3)) ∧ w'.cell? (ad285.add (x12_2).toNat) = some (.slice (some ad287) (rd_L1 l1 x12_2).length c286_0) ∧ w'.cell? (ad285.add (x12_2).toNat) = some (.slice (some ad287) (rd_L1 l1 x12_2).length c286_0) ∧ w'.cell? (ad287.add ((ji34)).toNat) = some (.int .i64 (rd (rd_L1 l1 x12_2) (ji34)))) (ds := [23]) #[false, false, false, false, false, false, false, false, false, false, false, false, false, false, false, false, false, false, false, false, false, false, false, false] (by kernel_rfl) rfl rfl ⟨((HB.out.cell (World.block_lt_of_cell? w _ hw286_0)).trans hw286_0), ((HB.out.cell (World.block_lt_of_cell? w _ hw287_0)).trans hw287_0), ((HB.out.cell (World.block_lt_of_cell? w _ hw288_0)).trans hw288_0), ((HB.out.cell (World.block_lt_of_cell? w _ hw289_0)).trans hw289_0), ((HB.out.cell (World.block_lt_of_cell? w _ hw290_0)).trans hw290_0)⟩ (fun hHeld => ?_); refine with_tabW galoisref22_FromCycles.tab24 galoisref22_FromCycles.bits24 (fun HT_ HW_ => ?_)
                                          generalize wr.drew = w40 at HO_7 HB GG39 HQ41 HR286_0 HR288_0 HR289_0 hf39_0 hx286_0 hx287_0 hx288_0 hx289_0 hx290_0 hx39_0 hHeld ⊢
                                          refine pure_ (i := 0) (N := some 74) (v := ?_) (a' := ?_) #[true, false, false, false, false, false, false, false, false, false, false, false, false, false, false, false, false, false, false, false, false, false, false, false] rfl rfl (any_of HT_.out (by kernel_rfl)) (fun _ _ _ h => h) (Or.inl ⟨by rfl, ?_⟩) ?_ ?_
                                          rotate_left
                                          · intro w'
                                            go_simp
                                            with_reducible rfl
                                          rotate_left
                                          · simp only [Act.put, List.setIfInBounds_toArray, List.set_cons_zero, List.set_cons_succ, i64_w, i32_w]
                                            rfl
                                          refine pure_ (i := 1) (N := some 75) (v := ?_) (a' := ?_) #[true, true, false, false, false, false, false, false, false, false, false, false, false, false, false, false, false, false, false, false, false, false, false, false] rfl rfl (any_of HT_.out (by kernel_rfl)) (fun _ _ _ h => h) (Or.inl ⟨by rfl, ?_⟩) ?_ ?_
                                          rotate_left
                                          · intro w'
                                            go_simp
                                            with_reducible rfl
                                          rotate_left
                                          · simp only [Act.put, List.setIfInBounds_toArray, List.set_cons_zero, List.set_cons_succ, i64_w, i32_w]
                                            rfl
                                          refine pure_ (i := 2) (N := some 76) (v := ?_) (a' := ?_) #[true, true, true, false, false, false, false, false, false, false, false, false, false, false, false, false, false, false, false, false, false, false, false, false] rfl rfl (any_of HT_.out (by kernel_rfl)) (fun _ _ _ h => h) (Or.inl ⟨by rfl, ?_⟩) ?_ ?_
                                          rotate_left
                                          · intro w'
                                            go_simp
                                            with_reducible rfl
                                          rotate_left
                                          · simp only [Act.put, List.setIfInBounds_toArray, List.set_cons_zero, List.set_cons_succ, i64_w, i32_w]
                                            rfl
                                          refine pure_ (i := 3) (N := some 77) (v := ?_) (a' := ?_) #[true, true, true, true, false, false, false, false, false, false, false, false, false, false, false, false, false, false, false, false, false, false, false, false] rfl rfl (any_of HT_.out (by kernel_rfl)) (fun _ _ _ h => h) (Or.inl ⟨by rfl, ?_⟩) ?_ ?_
                                          rotate_left
                                          · intro w'
                                            go_simp
                                            with_reducible rfl
                                          rotate_left
                                          · simp only [Act.put, List.setIfInBounds_toArray, List.set_cons_zero, List.set_cons_succ, i64_w, i32_w]
                                            rfl
                                          refine pure_ (i := 5) (N := some 79) (v := ?_) (a' := ?_) #[true, true, true, true, false, true, false, false, false, false, false, false, false, false, false, false, false, false, false, false, false, false, false, false] rfl rfl (any_of HT_.out (by kernel_rfl)) (fun _ _ _ h => h) (Or.inl ⟨by rfl, ?_⟩) ?_ ?_
                                          rotate_left
                                          · intro w'
                                            go_simp
                                            with_reducible rfl
                                          rotate_left
                                          · simp only [Act.put, List.setIfInBounds_toArray, List.set_cons_zero, List.set_cons_succ, i64_w, i32_w]
                                            rfl
                                          refine pure_ (i := 8) (N := some 82) (v := ?_) (a' := ?_) #[true, true, true, true, false, true, false, false, true, false, false, false, false, false, false, false, false, false, false, false, false, false, false, false] rfl rfl (any_of HT_.out (by kernel_rfl)) (fun _ _ _ h => h) (Or.inl ⟨by rfl, ?_⟩) ?_ ?_
                                          rotate_left
                                          · intro w'
                                            go_simp
                                            with_reducible rfl
                                          rotate_left
                                          · simp only [Act.put, List.setIfInBounds_toArray, List.set_cons_zero, List.set_cons_succ, i64_w, i32_w]
                                            rfl
                                          refine pure_ (i := 9) (N := some 83) (v := ?_) (a' := ?_) #[true, true, true, true, false, true, false, false, true, true, false, false, false, false, false, false, false, false, false, false, false, false, false, false] rfl rfl (any_of HT_.out (by kernel_rfl)) (fun _ _ _ h => h) (Or.inl ⟨by rfl, ?_⟩) ?_ ?_
                                          rotate_left
                                          · intro w'
                                            go_simp
                                            with_reducible rfl
                                          rotate_left
                                          · simp only [Act.put, List.setIfInBounds_toArray, List.set_cons_zero, List.set_cons_succ, i64_w, i32_w]
                                            rfl
                                          refine pure_ (i := 10) (N := some 84) (v := ?_) (a' := ?_) #[true, true, true, true, false, true, false, false, true, true, true, false, false, false, false, false, false, false, false, false, false, false, false, false] rfl rfl (any_of HT_.out (by kernel_rfl)) (fun _ _ _ h => h) (Or.inl ⟨by rfl, ?_⟩) ?_ ?_
                                          rotate_left
                                          · intro w'
                                            go_simp
                                            with_reducible rfl
                                          rotate_left
                                          · simp only [Act.put, List.setIfInBounds_toArray, List.set_cons_zero, List.set_cons_succ, i64_w, i32_w]
                                            rfl
                                          refine pure_ (i := 12) (N := some 86) (v := ?_) (a' := ?_) #[true, true, true, true, false, true, false, false, true, true, true, false, true, false, false, false, false, false, false, false, false, false, false, false] rfl rfl (any_of HT_.out (by kernel_rfl)) (fun _ _ _ h => h) (Or.inl ⟨by rfl, ?_⟩) ?_ ?_
                                          rotate_left
                                          · intro w'
                                            go_simp
                                            with_reducible rfl
                                          rotate_left
                                          · simp only [Act.put, List.setIfInBounds_toArray, List.set_cons_zero, List.set_cons_succ, i64_w, i32_w]
                                            rfl
                                          refine pure_ (i := 13) (N := some 87) (v := ?_) (a' := ?_) #[true, true, true, true, false, true, false, false, true, true, true, false, true, true, false, false, false, false, false, false, false, false, false, false] rfl rfl (any_of HT_.out (by kernel_rfl)) (fun _ _ _ h => h) (Or.inl ⟨by rfl, ?_⟩) ?_ ?_
                                          rotate_left
                                          · intro w'
                                            go_simp
                                            with_reducible rfl
                                          rotate_left
                                          · simp only [Act.put, List.setIfInBounds_toArray, List.set_cons_zero, List.set_cons_succ, i64_w, i32_w]
                                            rfl
                                          refine pure_ (i := 14) (N := some 88) (v := ?_) (a' := ?_) #[true, true, true, true, false, true, false, false, true, true, true, false, true, true, true, false, false, false, false, false, false, false, false, false] rfl rfl (any_of HT_.out (by kernel_rfl)) (fun _ _ _ h => h) (Or.inl ⟨by rfl, ?_⟩) ?_ ?_
                                          rotate_left
                                          · intro w'
                                            go_simp
                                            with_reducible rfl
                                          rotate_left
                                          · simp only [Act.put, List.setIfInBounds_toArray, List.set_cons_zero, List.set_cons_succ, i64_w, i32_w]
                                            rfl
                                          refine pure_ (i := 15) (N := some 89) (v := ?_) (a' := ?_) #[true, true, true, true, false, true, false, false, true, true, true, false, true, true, true, true, false, false, false, false, false, false, false, false] rfl rfl (any_of HT_.out (by kernel_rfl)) (fun _ _ _ h => h) (Or.inl ⟨by rfl, ?_⟩) ?_ ?_
                                          rotate_left
                                          · intro w'
                                            go_simp
                                            with_reducible rfl
                                          rotate_left
                                          · simp only [Act.put, List.setIfInBounds_toArray, List.set_cons_zero, List.set_cons_succ, i64_w, i32_w]
                                            rfl
                                          refine pure_ (i := 16) (N := some 90) (v := ?_) (a' := ?_) #[true, true, true, true, false, true, false, false, true, true, true, false, true, true, true, true, true, false, false, false, false, false, false, false] rfl rfl (any_of HT_.out (by kernel_rfl)) (fun _ _ _ h => h) (Or.inl ⟨by rfl, ?_⟩) ?_ ?_
                                          rotate_left
                                          · intro w'
                                            go_simp
                                            with_reducible rfl
                                          rotate_left
                                          · simp only [Act.put, List.setIfInBounds_toArray, List.set_cons_zero, List.set_cons_succ, i64_w, i32_w]
                                            rfl
                                          refine take_ (i := 4) (N := some 78) (v := ?_) (a' := ?_) #[true, true, true, true, true, true, false, false, true, true, true, false, true, true, true, true, true, false, false, false, false, false, false, false] rfl rfl (take_ofW HT_.out HW_.out (by kernel_rfl)) (fun _ _ _ h => h) (Or.inl ⟨by rfl, ?_⟩) hHeld ?_ ?_
                                          rotate_left
                                          · rintro w' ⟨s0, s1, s2, s3, s4⟩
                                            go_simp
                                            with_reducible rfl
                                          rotate_left
                                          · simp only [Act.put, List.setIfInBounds_toArray, List.set_cons_zero, List.set_cons_succ, i64_w, i32_w]
                                            rfl
                                          refine pure_ (i := 6) (N := some 80) (v := ?_) (a' := ?_) #[true, true, true, true, true, true, true, false, true, true, true, false, true, true, true, true, true, false, false, false, false, false, false, false] rfl rfl (any_of HT_.out (by kernel_rfl)) (fun _ _ _ h => h) (Or.inl ⟨by rfl, ?_⟩) ?_ ?_
                                          rotate_left
                                          · intro w'
                                            go_simp
                                            with_reducible rfl
                                          rotate_left
                                          · simp only [Act.put, List.setIfInBounds_toArray, List.set_cons_zero, List.set_cons_succ, i64_w, i32_w]
                                            rfl
                                          refine take_ (i := 7) (N := some 81) (v := ?_) (a' := ?_) #[true, true, true, true, true, true, true, true, true, true, true, false, true, true, true, true, true, false, false, false, false, false, false, false] rfl rfl (take_ofW HT_.out HW_.out (by kernel_rfl)) (fun _ _ _ h => h) (Or.inl ⟨by rfl, ?_⟩) hHeld ?_ ?_
                                          rotate_left
                                          · rintro w' ⟨s0, s1, s2, s3, s4⟩
                                            go_simp
                                            with_reducible rfl
                                          rotate_left
                                          · simp only [Act.put, List.setIfInBounds_toArray, List.set_cons_zero, List.set_cons_succ, i64_w, i32_w]
                                            rfl
                                          refine take_ (i := 11) (N := some 85) (v := ?_) (a' := ?_) #[true, true, true, true, true, true, true, true, true, true, true, true, true, true, true, true, true, false, false, false, false, false, false, false] rfl rfl (take_ofW HT_.out HW_.out (by kernel_rfl)) (fun _ _ _ h => h) (Or.inl ⟨by rfl, ?_⟩) hHeld ?_ ?_
                                          rotate_left
                                          · rintro w' ⟨s0, s1, s2, s3, s4⟩
                                            go_simp
                                            with_reducible rfl
                                          rotate_left
                                          · simp only [Act.put, List.setIfInBounds_toArray, List.set_cons_zero, List.set_cons_succ, i64_w, i32_w]
                                            rfl
                                          refine take_ (i := 17) (N := some 91) (v := ?_) (a' := ?_) #[true, true, true, true, true, true, true, true, true, true, true, true, true, true, true, true, true, true, false, false, false, false, false, false] rfl rfl (take_ofW HT_.out HW_.out (by kernel_rfl)) (fun _ _ _ h => h) (Or.inl ⟨by rfl, ?_⟩) hHeld ?_ ?_
                                          rotate_left
                                          · rintro w' ⟨s0, s1, s2, s3, s4⟩
                                            go_simp
                                            with_reducible rfl
                                          rotate_left
                                          · simp only [Act.put, List.setIfInBounds_toArray, List.set_cons_zero, List.set_cons_succ, i64_w, i32_w]
                                            rfl
                                          refine pure_ (i := 18) (N := some 92) (v := ?_) (a' := ?_) #[true, true, true, true, true, true, true, true, true, true, true, true, true, true, true, true, true, true, true, false, false, false, false, false] rfl rfl (any_of HT_.out (by kernel_rfl)) (fun _ _ _ h => h) (Or.inl ⟨by rfl, ?_⟩) ?_ ?_
                                          rotate_left
                                          · intro w'
                                            go_simp
                                            with_reducible rfl
                                          rotate_left
                                          · simp only [Act.put, List.setIfInBounds_toArray, List.set_cons_zero, List.set_cons_succ, i64_w, i32_w]
                                            rfl
                                          refine pure_ (i := 19) (N := some 93) (v := ?_) (a' := ?_) #[true, true, true, true, true, true, true, true, true, true, true, true, true, true, true, true, true, true, true, true, false, false, false, false] rfl rfl (any_of HT_.out (by kernel_rfl)) (fun _ _ _ h => h) (Or.inl ⟨by rfl, ?_⟩) ?_ ?_
                                          rotate_left
                                          · intro w'
                                            go_simp
                                            with_reducible rfl
                                          rotate_left
                                          · simp only [Act.put, List.setIfInBounds_toArray, List.set_cons_zero, List.set_cons_succ, i64_w, i32_w]
                                            rfl
                                          refine pure_ (i := 20) (N := some 94) (v := ?_) (a' := ?_) #[true, true, true, true, true, true, true, true, true, true, true, true, true, true, true, true, true, true, true, true, true, false, false, false] rfl rfl (any_of HT_.out (by kernel_rfl)) (fun _ _ _ h => h) (Or.inl ⟨by rfl, ?_⟩) ?_ ?_
                                          rotate_left
                                          · intro w'
                                            go_simp
                                            with_reducible rfl
                                          rotate_left
                                          · simp only [Act.put, List.setIfInBounds_toArray, List.set_cons_zero, List.set_cons_succ, i64_w, i32_w]
                                            rfl
                                          refine take_ (i := 21) (N := some 95) (v := ?_) (a' := ?_) #[true, true, true, true, true, true, true, true, true, true, true, true, true, true, true, true, true, true, true, true, true, true, false, false] rfl rfl (take_ofW HT_.out HW_.out (by kernel_rfl)) (fun _ _ _ h => h) (Or.inl ⟨by rfl, ?_⟩) hHeld ?_ ?_
                                          rotate_left
                                          · rintro w' ⟨s0, s1, s2, s3, s4⟩
                                            go_simp
                                            with_reducible rfl
                                          rotate_left
                                          · simp only [Act.put, List.setIfInBounds_toArray, List.set_cons_zero, List.set_cons_succ, i64_w, i32_w]
                                            rfl
                                          refine pure_ (i := 22) (N := some 96) (v := ?_) (a' := ?_) #[true, true, true, true, true, true, true, true, true, true, true, true, true, true, true, true, true, true, true, true, true, true, true, false] rfl rfl (any_of HT_.out (by kernel_rfl)) (fun _ _ _ h => h) (Or.inl ⟨by rfl, ?_⟩) ?_ ?_
                                          rotate_left
                                          · intro w'
                                            go_simp
                                            with_reducible rfl
                                          rotate_left
                                          · simp only [Act.put, List.setIfInBounds_toArray, List.set_cons_zero, List.set_cons_succ, i64_w, i32_w]
                                            rfl
                                          refine last_ (i := 23) (N := none) #[true, true, true, true, true, true, true, true, true, true, true, true, true, true, true, true, true, true, true, true, true, true, true, true] rfl rfl (one_of HT_.out (by kernel_rfl)) (by decide) (fun K hK => ?_)
                                          refine skip_ (w1 := ?_) (by rfl) rfl ?_ ?_
                                          rotate_left
                                          · go_simp
                                            rfl
                                          refine hK.out _ _ ?_
                                          clear hK K
                                          refine done_ (done_of HT_.out (by kernel_rfl)) ?_
                                          try go_wp2
                                          go_roundg k3
                                          case measure => have := HK1.out; have := HK2.out; have := HK3.out; omega
                                          case rel => exact ⟨(y291), (wrap64 (x13_3 + 1)), (by first | rfl | (simp; done) | (simp [*]; done)), H', ⟨by have := HK1.out; have := HK2.out; have := HK3.out; omega⟩, ⟨by (with_reducible repeat (first | apply Kd.R_alloc | apply Kd.R_drewN | apply Kd.R_drew)); exact HQ41.out⟩, ⟨by repeat (first | (with_reducible first | exact HB.out | apply below_alloc | apply pw_below_drewN | apply below_drew1 | refine below_set ?_ GB39.out) | exact HB.out)⟩⟩
                                        · rw [if_neg c38] at H
                                          exact absurd H (by simp)
                                      · rw [if_neg c37] at H
                                        exact absurd H (by simp)
                                    · rw [if_neg c36] at H
                                      exact absurd H (by simp)
                                  · rw [if_neg c35] at H
                                    exact absurd H (by simp)
                              · rw [if_neg c32] at H
                                exact absurd H (by simp)
                            · rw [if_neg c31] at H
                              have c31b0 : decide (x13_3 < ((rd_L1 l1 x12_2).length : Int)) = false := decide_eq_false c31
                              clear c31
                              have H' := Aside0.mk H
                              clear H
                              have p285 : 0 ≤ (x12_2 : Int) := of_decide_eq_true (by first | (with_reducible assumption) | assumption)
                              have q285 : x12_2 < (l1.length : Int) := of_decide_eq_true (by first | (with_reducible assumption) | assumption)
                              obtain ⟨ad285, A285_0, c285_0, e285, hx285_0, hl285_0, hi285_0⟩ := at_L1 HR1.out x12_2 p285 q285
                              cases e285
                              try (replace hx285_0 := (HB.out.cell (World.block_lt_of_cell? w _ hx285_0)).trans hx285_0)
                              have HR285_0 := Aside0.mk hi285_0
                              have HC285_0 := Aside0.mk hl285_0
                              clear hi285_0 hl285_0
                              replace p285 := eq_true p285
                              replace q285 := eq_true q285
                              go_wp2
                              go_roundg k3
                              case measure => have := HK1.out; have := HK2.out; have := HK3.out; omega
                              case rel => exact ⟨(x7_3), (wrap64 (x12_2 + 1)), (by first | rfl | (simp; done) | (simp [*]; done)), H', ⟨by have := HK1.out; have := HK2.out; have := HK3.out; omega⟩, ⟨by (with_reducible repeat (first | apply Kd.R_alloc | apply Kd.R_drewN | apply Kd.R_drew)); exact HO_7.out⟩, ⟨by repeat (first | (with_reducible first | exact HB.out | apply below_alloc | apply pw_below_drewN | apply below_drew1) | exact HB.out)⟩⟩
                          · rw [if_neg c30] at H
                            exact absurd H (by simp)
                        · rw [if_neg c29] at H
                          exact absurd H (by simp)
                  · rw [if_neg c28] at H
                    have c28b0 : decide (x12_2 < (l1.length : Int)) = false := decide_eq_false c28
                    clear c28
                    simp only [Option.some.injEq, Prod.mk.injEq] at H
                    obtain ⟨rfl, rfl⟩ := H
                    go_wp2
                    go_ret2
                    exact ⟨_, by first | rfl | (simp [errW_none, errW_some] <;> rfl) | (simp [*, errW_none, errW_some] <;> rfl), by (with_reducible repeat (first | apply Kd.R_alloc | apply Kd.R_drewN | apply Kd.R_drew)); exact HO_7.out, by repeat (first | (with_reducible first | exact HB.out | apply below_alloc | apply pw_below_drewN | apply below_drew1) | exact HB.out)⟩
      · rw [if_neg c7] at H
        exact absurd H (by simp)
    · rw [if_neg c6] at H
      exact absurd H (by simp)
  · rw [if_neg c4] at H
    have c4b0 : (t273 == 0) = false := beq_eq_false_iff_ne.mpr c4
    have c4b1 : (t273 != 0) = true := bne_iff_ne.mpr c4
    simp only [Option.some.injEq, Prod.mk.injEq] at H
    obtain ⟨rfl, rfl⟩ := H
    go_enter Tryd.func21, Tryd.ntmps21
    go_wp2_with (first | ((with_reducible refine gate_callee (f := 22) rfl ?_); refine goesL_ (some 15) rfl rfl Tryd.func22 (by kernel_rfl) rfl #[.int .i64 a0] rfl (by (try simp only [List.map_toArray, List.map_cons, List.map_nil]); first | done | rfl | (simp only [List.length_drop, List.length_take]; rfl)) ?_; (with_reducible refine (galoisref22_Degree.calls a0 t273 _ A3.out).mono ?_); rintro e w' ⟨rfl, ⟨nd, rfl⟩⟩; refine ⟨_, rfl, ?_⟩))
    go_ret2
    exact ⟨_, by first | rfl | (simp [errW_none, errW_some] <;> rfl) | (simp [*, errW_none, errW_some] <;> rfl), by first | exact Kd.R_nil _ _ _ _ _ | exact Kd.N_nil _ _ _ _ _ | exact Kd.V_nil _ _ _ _ _ | exact Kd.Q_nil _ _ _ _ _ | exact Kd.S_nil _ _ _ _ _, by repeat (first | (with_reducible first | exact HB.out | apply below_alloc | apply pw_below_drewN | apply below_drew1) | exact HB.out)⟩

end Go.Proofs.YtoaalfpfklchfaaDoor.PPermTexts
