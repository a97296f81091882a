-- Printed by wip/tools/mk.py of this repo (the kit's print with turns made in memory).
import Derived.Test.YtobbdbkcailfkaaPTopZolotarevx0
import Derived.Test.YtobbdbkcailfkaaPTopZolotarevx2
import Derived.Test.YtobbdbkcailfkaaPTopZolotarevx6
namespace Go.Proofs.Ytobbdbkcailfkaa.PTopZolotarev
open Go.RowKit Go.Proofs.YtobbdbkcailfkaaW.PrintWords Go.Proofs.YtobbdbkcailfkaaW.PrintLast Go.Proofs.YtobbdbkcailfkaaW.PrintMore
attribute [local go_sem] max2_int min2_int max_two min_two max_three min_three max_four min_four   -- for this text's walks alone
set_option linter.unusedVariables false
set_option linter.unusedSimpArgs false

/-! ### residue_Jacobi: function 9 -/
mutual
def residue_Jacobi.j0 : Nat → Int → Int → Bool → Option (Int × Int)
  | 0, _, _, _ => none
  | k + 1, x0, x1, x14 => if x14 = true then (some (0, 3)) else ((residue_mod.f x0 x1).bind fun t258 => (residue_Jacobi.l0 k t258 x1 1))
def residue_Jacobi.l0 : Nat → Int → Int → Int → Option (Int × Int)
  | 0, _, _, _ => none
  | k + 1, x0, x1, x6 => if x0 > 0 then (residue_Jacobi.l1 k x0 x1 x6) else (if x1 > 1 then (some (0, 0)) else (some (x6, 0)))
def residue_Jacobi.l1 : Nat → Int → Int → Int → Option (Int × Int)
  | 0, _, _, _ => none
  | k + 1, x0, x1, x6 => if (Int.tmod x0 2) = 0 then (if (Int.tmod x1 8) = 3 then (residue_Jacobi.l1 k (wrap64 (Int.tdiv x0 2)) x1 (wrap64 (-x6))) else (if (Int.tmod x1 8) = 5 then (residue_Jacobi.l1 k (wrap64 (Int.tdiv x0 2)) x1 (wrap64 (-x6))) else (residue_Jacobi.l1 k (wrap64 (Int.tdiv x0 2)) x1 x6))) else (if (Int.tmod x0 4) = 3 then (if (Int.tmod x1 4) = 3 then (if x0 = 0 then (none) else (residue_Jacobi.l0 k (Int.tmod x1 x0) x0 (wrap64 (-x6)))) else (if x0 = 0 then (none) else (residue_Jacobi.l0 k (Int.tmod x1 x0) x0 x6))) else (if x0 = 0 then (none) else (residue_Jacobi.l0 k (Int.tmod x1 x0) x0 x6)))
end
def residue_Jacobi.f (k : Nat) (a0 : Int) (a1 : Int) : Option (Int × Int) := (residue_bad.f k (([a1] : List Int))).bind fun t257 => (if t257 = true then (residue_Jacobi.j0 k a0 a1 true) else (residue_Jacobi.j0 k a0 a1 ((Int.tmod a1 2) == 0)))
theorem residue_Jacobi.mono_l : ∀ k, (∀ y0 y1 y2, LeO (residue_Jacobi.j0 k y0 y1 y2) (residue_Jacobi.j0 (k + 1) y0 y1 y2)) ∧ (∀ y0 y1 y2, LeO (residue_Jacobi.l0 k y0 y1 y2) (residue_Jacobi.l0 (k + 1) y0 y1 y2)) ∧ (∀ y0 y1 y2, LeO (residue_Jacobi.l1 k y0 y1 y2) (residue_Jacobi.l1 (k + 1) y0 y1 y2))
  | 0 => ⟨fun _ _ _ r h => by simp [residue_Jacobi.j0] at h, fun _ _ _ r h => by simp [residue_Jacobi.l0] at h, fun _ _ _ r h => by simp [residue_Jacobi.l1] at h⟩
  | k + 1 => by
    obtain ⟨ih0, ih1, ih2⟩ := residue_Jacobi.mono_l k
    refine ⟨?_, ?_, ?_⟩
    · intro y0 y1 y2
      unfold residue_Jacobi.j0
      repeat' first
      | (with_reducible exact ih0 _ _ _)
      | (with_reducible exact ih1 _ _ _)
      | (with_reducible exact ih2 _ _ _)
      | (with_reducible exact residue_bad.mono _ _)
      | (with_reducible exact LeO.refl _)
      | (with_reducible exact LeO.none _)
      | (with_reducible refine LeO.ite ?_ ?_)
      | (with_reducible refine LeO.bind ?_ (fun _ => ?_))
      | exact ih0 _ _ _
      | exact ih1 _ _ _
      | exact ih2 _ _ _
      | exact residue_bad.mono _ _
      | exact LeO.none _
      | refine LeO.ite ?_ ?_
      | refine LeO.bind ?_ (fun _ => ?_)
    · intro y0 y1 y2
      unfold residue_Jacobi.l0
      repeat' first
      | (with_reducible exact ih0 _ _ _)
      | (with_reducible exact ih1 _ _ _)
      | (with_reducible exact ih2 _ _ _)
      | (with_reducible exact residue_bad.mono _ _)
      | (with_reducible exact LeO.refl _)
      | (with_reducible exact LeO.none _)
      | (with_reducible refine LeO.ite ?_ ?_)
      | (with_reducible refine LeO.bind ?_ (fun _ => ?_))
      | exact ih0 _ _ _
      | exact ih1 _ _ _
      | exact ih2 _ _ _
      | exact residue_bad.mono _ _
      | exact LeO.none _
      | refine LeO.ite ?_ ?_
      | refine LeO.bind ?_ (fun _ => ?_)
    · intro y0 y1 y2
      unfold residue_Jacobi.l1
      repeat' first
      | (with_reducible exact ih0 _ _ _)
      | (with_reducible exact ih1 _ _ _)
      | (with_reducible exact ih2 _ _ _)
      | (with_reducible exact residue_bad.mono _ _)
      | (with_reducible exact LeO.refl _)
      | (with_reducible exact LeO.none _)
      | (with_reducible refine LeO.ite ?_ ?_)
      | (with_reducible refine LeO.bind ?_ (fun _ => ?_))
      | exact ih0 _ _ _
      | exact ih1 _ _ _
      | exact ih2 _ _ _
      | exact residue_bad.mono _ _
      | exact LeO.none _
      | refine LeO.ite ?_ ?_
      | refine LeO.bind ?_ (fun _ => ?_)
theorem residue_Jacobi.mono : ∀ a0 a1 k, LeO (residue_Jacobi.f k a0 a1) (residue_Jacobi.f (k + 1) a0 a1) := by
  intro a0 a1 k
  obtain ⟨ih0, ih1, ih2⟩ := residue_Jacobi.mono_l k
  unfold residue_Jacobi.f
  repeat' first
      | (with_reducible exact ih0 _ _ _)
      | (with_reducible exact ih1 _ _ _)
      | (with_reducible exact ih2 _ _ _)
      | (with_reducible exact residue_bad.mono _ _)
      | (with_reducible exact LeO.refl _)
      | (with_reducible exact LeO.none _)
      | (with_reducible refine LeO.ite ?_ ?_)
      | (with_reducible refine LeO.bind ?_ (fun _ => ?_))
      | exact ih0 _ _ _
      | exact ih1 _ _ _
      | exact ih2 _ _ _
      | exact residue_bad.mono _ _
      | exact LeO.none _
      | refine LeO.ite ?_ ?_
      | refine LeO.bind ?_ (fun _ => ?_)
set_option maxHeartbeats 8000000 in
set_option maxRecDepth 100000 in
theorem residue_Jacobi.calls (k : Nat) (a0 : Int) (a1 : Int) (r1 : Int) (r2 : Int) (w : World) (h : residue_Jacobi.f k a0 a1 = some (r1, r2)) :
    Calls Try.prog 9 #[.int .i64 a0, .int .i64 a1] w fun e w' => e = .returned (.tuple #[.int .i64 r1, .int .i64 r2]) ∧ Below w.heap.size w w' := by
  have HB := Aside0.mk (Below.refl w.heap.size w)
  have H : ((residue_bad.f k (([a1] : List Int))).bind fun t257 => (if t257 = true then (residue_Jacobi.j0 k a0 a1 true) else (residue_Jacobi.j0 k a0 a1 ((Int.tmod a1 2) == 0)))) = some (r1, r2) := h
  clear h
  have HC3 := Aside0.mk H
  clear H
  go_enter Try.func9, Try.ntmps9
  go_upto_region 1 with (fail)
  go_cut [14] (fun v14 wc => ∃ (kq : Nat) (x14_2 : Bool), v14 = .bool x14_2 ∧ Aside0 (residue_Jacobi.j0 kq a0 a1 x14_2 = some (r1, r2)) ∧ Aside0 (kq ≤ k) ∧ Aside0 (Below w.heap.size w wc))
  case first =>
    have H := HC3.out
    clear HC3
    obtain ⟨y254, hy254⟩ : ∃ y_ : List Int, y_ = (([a1] : List Int)) := ⟨_, rfl⟩
    replace H : ((residue_bad.f k y254).bind fun t257 => (if t257 = true then (residue_Jacobi.j0 k a0 a1 true) else (residue_Jacobi.j0 k a0 a1 ((Int.tmod a1 2) == 0)))) = some (r1, r2) := by first | (rw [hy254]; with_reducible exact H) | (have H2_ := (Option.bind_some _ _).symm.trans H; rw [hy254]; with_reducible exact H2_) | (have H2_ := (Option.bind_some _ _).symm.trans H; with_reducible exact H2_) | with_reducible exact H | (rw [hy254]; exact H) | exact H
    have Ny254 := Aside0.mk hy254
    clear hy254
    replace H := Option.bind_eq_some_iff.mp H
    obtain ⟨t257, A40, H⟩ := H
    replace H : (if t257 = true then (residue_Jacobi.j0 k a0 a1 true) else (residue_Jacobi.j0 k a0 a1 ((Int.tmod a1 2) == 0))) = some (r1, r2) := H
    have A4 := Aside0.mk A40
    clear A40
    by_cases c5 : t257 = true
    · subst c5
      have H1 : (residue_Jacobi.j0 k a0 a1 true) = some (r1, r2) := by rw [if_pos rfl] at H; exact H
      clear H
      have H := H1
      clear H1
      have H' := Aside0.mk H
      clear H
      go_wp2_with (first | ((with_reducible refine gate_dst (N := 8) rfl ?_); refine Kd.R_lit (Kd.int .i64) _ 3 ?hg (N := 8) ?hd (xs := ([a1] : List Int)) (inner := [.int .i64 a1]) (ok := fun _ => True) (okp := fun _ => True) ?hr ?hp (fun _ hk => hk) trivial (Below.refl _ _) (Nat.le_refl _) (by simp) ?_; (case hd => rfl); (case hg => rfl); (case hr => first | (go_simp; done) | (go_simp; rfl)); (case hp => exact (Reps.one (show Kd.M (Kd.int .i64) _ _ _ a1 [.int .i64 a1] from rfl) (Reps.none _ _))); intro v255 w6 ho7 hb hg_ hnew_; clear hg_ hnew_; (first | rw [← Ny254.out] at ho7 | (simp only [Int.reduceToNat] at ho7; rw [← Ny254.out] at ho7)); have n0_ := Aside0.mk (Kd.R_lower ho7 (below_size (by repeat (first | (with_reducible first | exact HB.out | apply below_alloc | apply pw_below_drewN | apply below_drew1) | exact HB.out)))); have n1_ := Aside0.mk (below_step (by repeat (first | (with_reducible first | exact HB.out | apply below_alloc | apply pw_below_drewN | apply below_drew1) | exact HB.out)) hb); clear HB; have HO256 := n0_; have HB := n1_; clear n0_ n1_; clear hb ho7; obtain ⟨Ao8, co8, eo8⟩ := Kd.R_slice HO256.out; subst eo8) | ((with_reducible refine gate_callee (f := 19) rfl ?_); refine goesL_ (some 9) rfl rfl Try.func19 (by kernel_rfl) rfl #[.slice Ao8 y254.length co8] rfl (by (try simp only [List.map_toArray, List.map_cons, List.map_nil]); first | done | rfl | (simp only [List.length_drop, List.length_take]; rfl)) ?_; (with_reducible refine (residue_bad.calls k _ _ y254 true _ ?side1 ?side2 A4.out).mono ?_); (case side1 => repeat (first | exact (Kd.R_reads' HO256.out).2.2 | (with_reducible refine Kd.C_alloc ?_ _) | (with_reducible refine Kd.C_drewN ?_ _) | (with_reducible refine Kd.C_drew ?_))); (case side2 => exact (Kd.R_reads' HO256.out).2.1); rintro e w' ⟨rfl, ⟨nd, rfl⟩⟩; refine ⟨_, rfl, ?_⟩))
      go_meet
      case rel => exact ⟨_, (true), (by first | rfl | (simp; done) | (simp [*]; done)), H', ⟨by first | omega | exact Nat.le_refl _⟩, ⟨by repeat (first | (with_reducible first | exact HB.out | apply below_alloc | apply pw_below_drewN | apply below_drew1) | exact HB.out)⟩⟩
    · replace c5 := Bool.eq_false_iff.mpr c5
      subst c5
      have H1 : (residue_Jacobi.j0 k a0 a1 ((Int.tmod a1 2) == 0)) = some (r1, r2) := by rw [if_neg (show ¬ (false = true) by decide)] at H; exact H
      clear H
      have H := H1
      clear H1
      have H' := Aside0.mk H
      clear H
      go_wp2_with (first | ((with_reducible refine gate_dst (N := 8) rfl ?_); refine Kd.R_lit (Kd.int .i64) _ 3 ?hg (N := 8) ?hd (xs := ([a1] : List Int)) (inner := [.int .i64 a1]) (ok := fun _ => True) (okp := fun _ => True) ?hr ?hp (fun _ hk => hk) trivial (Below.refl _ _) (Nat.le_refl _) (by simp) ?_; (case hd => rfl); (case hg => rfl); (case hr => first | (go_simp; done) | (go_simp; rfl)); (case hp => exact (Reps.one (show Kd.M (Kd.int .i64) _ _ _ a1 [.int .i64 a1] from rfl) (Reps.none _ _))); intro v255 w9 ho10 hb hg_ hnew_; clear hg_ hnew_; (first | rw [← Ny254.out] at ho10 | (simp only [Int.reduceToNat] at ho10; rw [← Ny254.out] at ho10)); have n0_ := Aside0.mk (Kd.R_lower ho10 (below_size (by repeat (first | (with_reducible first | exact HB.out | apply below_alloc | apply pw_below_drewN | apply below_drew1) | exact HB.out)))); have n1_ := Aside0.mk (below_step (by repeat (first | (with_reducible first | exact HB.out | apply below_alloc | apply pw_below_drewN | apply below_drew1) | exact HB.out)) hb); clear HB; have HO256 := n0_; have HB := n1_; clear n0_ n1_; clear hb ho10; obtain ⟨Ao11, co11, eo11⟩ := Kd.R_slice HO256.out; subst eo11) | ((with_reducible refine gate_callee (f := 19) rfl ?_); refine goesL_ (some 9) rfl rfl Try.func19 (by kernel_rfl) rfl #[.slice Ao11 y254.length co11] rfl (by (try simp only [List.map_toArray, List.map_cons, List.map_nil]); first | done | rfl | (simp only [List.length_drop, List.length_take]; rfl)) ?_; (with_reducible refine (residue_bad.calls k _ _ y254 false _ ?side1 ?side2 A4.out).mono ?_); (case side1 => repeat (first | exact (Kd.R_reads' HO256.out).2.2 | (with_reducible refine Kd.C_alloc ?_ _) | (with_reducible refine Kd.C_drewN ?_ _) | (with_reducible refine Kd.C_drew ?_))); (case side2 => exact (Kd.R_reads' HO256.out).2.1); rintro e w' ⟨rfl, ⟨nd, rfl⟩⟩; refine ⟨_, rfl, ?_⟩))
      go_meet
      case rel => exact ⟨_, (((Int.tmod a1 2) == 0)), (by first | rfl | (simp; done) | (simp [*]; done)), H', ⟨by first | omega | exact Nat.le_refl _⟩, ⟨by repeat (first | (with_reducible first | exact HB.out | apply below_alloc | apply pw_below_drewN | apply below_drew1) | exact HB.out)⟩⟩
  case rest =>
    clear HC3
    try clear c1
    try clear p2
    try clear c5
    try clear c9
    obtain ⟨kq, x14_2, rfl, HA, HJ2, HB⟩ := hcut
    cases kq with
    | zero => exact absurd HA.out (by simp [residue_Jacobi.j0])
    | succ kj2 =>
      have H := HA.out
      clear HA
      simp only [residue_Jacobi.j0] at H
      by_cases c12 : x14_2 = true
      · subst c12
        have H1 : (some (0, 3)) = some (r1, r2) := by rw [if_pos rfl] at H; exact H
        clear H
        have H := H1
        clear H1
        simp only [Option.some.injEq, Prod.mk.injEq] at H
        obtain ⟨rfl, rfl⟩ := H
        go_wp2
        go_ret2
        exact ⟨by first | rfl | (simp [errW_none, errW_some] <;> rfl) | (simp [*, errW_none, errW_some] <;> rfl), by repeat (first | (with_reducible first | exact HB.out | apply below_alloc | apply pw_below_drewN | apply below_drew1) | exact HB.out)⟩
      · replace c12 := Bool.eq_false_iff.mpr c12
        subst c12
        have H1 : ((residue_mod.f a0 a1).bind fun t258 => (residue_Jacobi.l0 kj2 t258 a1 1)) = some (r1, r2) := by rw [if_neg (show ¬ (false = true) by decide)] at H; exact H
        clear H
        have H := H1
        clear H1
        replace H := Option.bind_eq_some_iff.mp H
        obtain ⟨t258, A130, H⟩ := H
        replace H : (residue_Jacobi.l0 kj2 t258 a1 1) = some (r1, r2) := H
        have A13 := Aside0.mk A130
        clear A130
        have H' := Aside0.mk H
        clear H
        go_wp2_with (first | ((with_reducible refine gate_callee (f := 22) rfl ?_); refine goesL_ (some 17) rfl rfl Try.func22 (by kernel_rfl) rfl #[.int .i64 a0, .int .i64 a1] rfl (by (try simp only [List.map_toArray, List.map_cons, List.map_nil]); first | done | rfl | (simp only [List.length_drop, List.length_take]; rfl)) ?_; (with_reducible refine (residue_mod.calls a0 a1 t258 _ A13.out).mono ?_); rintro e w' ⟨rfl, ⟨nd, rfl⟩⟩; refine ⟨_, rfl, ?_⟩))
        go_loopg [0, 1, 6] kj2 (fun kq v0 v1 v6 w' => ∃ (x0_2 : Int) (x1_2 : Int) (x6_2 : Int), v0 = .int .i64 x0_2 ∧ v1 = .int .i64 x1_2 ∧ v6 = .int .i64 x6_2 ∧ Aside0 (residue_Jacobi.l0 kq x0_2 x1_2 x6_2 = some (r1, r2)) ∧ Aside0 (kq ≤ kj2) ∧ Aside0 (Below w.heap.size w w'))
        case atStart => exact ⟨(t258), (a1), (1), (by first | rfl | (simp; done) | (simp [*]; done)), (by first | rfl | (simp; done) | (simp [*]; done)), (by first | rfl | (simp; done) | (simp [*]; done)), H', ⟨Nat.le_refl _⟩, ⟨by repeat (first | (with_reducible first | exact HB.out | apply below_alloc | apply pw_below_drewN | apply below_drew1) | exact HB.out)⟩⟩
        case round =>
          clear H'
          try clear c1
          try clear c2
          try clear p2
          try clear c5
          try clear c9
          try clear c12
          try clear p2
          obtain ⟨x0_2, x1_2, x6_2, rfl, rfl, rfl, HA, HK2, HB⟩ := hrel
          cases gk with
          | zero => exact absurd HA.out (by simp [residue_Jacobi.l0])
          | succ k2 =>
            have H := HA.out
            clear HA
            simp only [residue_Jacobi.l0] at H
            by_cases c14 : x0_2 > 0
            · rw [if_pos c14] at H
              have c14b0 : decide (0 < x0_2) = true := decide_eq_true c14
              clear c14
              have H' := Aside0.mk H
              clear H
              go_wp2
              go_loopg [0, 6] k2 (fun kq v0 v6 w' => ∃ (x0_3 : Int) (x6_3 : Int), v0 = .int .i64 x0_3 ∧ v6 = .int .i64 x6_3 ∧ Aside0 (residue_Jacobi.l1 kq x0_3 x1_2 x6_3 = some (r1, r2)) ∧ Aside0 (kq ≤ k2) ∧ Aside0 (Below w.heap.size w w'))
              case atStart => exact ⟨(x0_2), (x6_2), (by first | rfl | (simp; done) | (simp [*]; done)), (by first | rfl | (simp; done) | (simp [*]; done)), H', ⟨Nat.le_refl _⟩, ⟨by repeat (first | (with_reducible first | exact HB.out | apply below_alloc | apply pw_below_drewN | apply below_drew1) | exact HB.out)⟩⟩
              case round =>
                clear H'
                try clear c1
                try clear c2
                try clear p2
                try clear c5
                try clear c9
                try clear c12
                try clear c14
                try clear c14b0
                try clear p2
                obtain ⟨x0_3, x6_3, rfl, rfl, HA, HK3, HB⟩ := hrel
                cases gk with
                | zero => exact absurd HA.out (by simp [residue_Jacobi.l1])
                | succ k3 =>
                  have H := HA.out
                  clear HA
                  simp only [residue_Jacobi.l1] at H
                  by_cases c15 : (Int.tmod x0_3 2) = 0
                  · rw [if_pos c15] at H
                    have c15b0 : ((Int.tmod x0_3 2) == 0) = true := beq_iff_eq.mpr c15
                    have c15b1 : ((Int.tmod x0_3 2) != 0) = false := bne_eq_false_iff_eq.mpr c15
                    clear c15
                    by_cases c16 : (Int.tmod x1_2 8) = 3
                    · rw [if_pos c16] at H
                      have c16b0 : ((Int.tmod x1_2 8) == 3) = true := beq_iff_eq.mpr c16
                      have c16b1 : ((Int.tmod x1_2 8) != 3) = false := bne_eq_false_iff_eq.mpr c16
                      clear c16
                      have H' := Aside0.mk H
                      clear H
                      go_wp2
                      go_roundg k3
                      case measure => have := HJ2.out; have := HK2.out; have := HK3.out; omega
                      case rel => exact ⟨(wrap64 (Int.tdiv x0_3 2)), (wrap64 (-x6_3)), (by first | rfl | (simp; done) | (simp [*]; done)), (by first | rfl | (simp; done) | (simp [*]; done)), H', ⟨by have := HJ2.out; have := HK2.out; have := HK3.out; omega⟩, ⟨by repeat (first | (with_reducible first | exact HB.out | apply below_alloc | apply pw_below_drewN | apply below_drew1) | exact HB.out)⟩⟩
                    · rw [if_neg c16] at H
                      have c16b0 : ((Int.tmod x1_2 8) == 3) = false := beq_eq_false_iff_ne.mpr c16
                      have c16b1 : ((Int.tmod x1_2 8) != 3) = true := bne_iff_ne.mpr c16
                      by_cases c17 : (Int.tmod x1_2 8) = 5
                      · rw [if_pos c17] at H
                        have c17b0 : ((Int.tmod x1_2 8) == 5) = true := beq_iff_eq.mpr c17
                        have c17b1 : ((Int.tmod x1_2 8) != 5) = false := bne_eq_false_iff_eq.mpr c17
                        clear c17
                        have H' := Aside0.mk H
                        clear H
                        go_wp2
                        go_roundg k3
                        case measure => have := HJ2.out; have := HK2.out; have := HK3.out; omega
                        case rel => exact ⟨(wrap64 (Int.tdiv x0_3 2)), (wrap64 (-x6_3)), (by first | rfl | (simp; done) | (simp [*]; done)), (by first | rfl | (simp; done) | (simp [*]; done)), H', ⟨by have := HJ2.out; have := HK2.out; have := HK3.out; omega⟩, ⟨by repeat (first | (with_reducible first | exact HB.out | apply below_alloc | apply pw_below_drewN | apply below_drew1) | exact HB.out)⟩⟩
                      · rw [if_neg c17] at H
                        have c17b0 : ((Int.tmod x1_2 8) == 5) = false := beq_eq_false_iff_ne.mpr c17
                        have c17b1 : ((Int.tmod x1_2 8) != 5) = true := bne_iff_ne.mpr c17
                        have H' := Aside0.mk H
                        clear H
                        go_wp2
                        go_roundg k3
                        case measure => have := HJ2.out; have := HK2.out; have := HK3.out; omega
                        case rel => exact ⟨(wrap64 (Int.tdiv x0_3 2)), (x6_3), (by first | rfl | (simp; done) | (simp [*]; done)), (by first | rfl | (simp; done) | (simp [*]; done)), H', ⟨by have := HJ2.out; have := HK2.out; have := HK3.out; omega⟩, ⟨by repeat (first | (with_reducible first | exact HB.out | apply below_alloc | apply pw_below_drewN | apply below_drew1) | exact HB.out)⟩⟩
                  · rw [if_neg c15] at H
                    have c15b0 : ((Int.tmod x0_3 2) == 0) = false := beq_eq_false_iff_ne.mpr c15
                    have c15b1 : ((Int.tmod x0_3 2) != 0) = true := bne_iff_ne.mpr c15
                    by_cases c18 : (Int.tmod x0_3 4) = 3
                    · rw [if_pos c18] at H
                      have c18b0 : ((Int.tmod x0_3 4) == 3) = true := beq_iff_eq.mpr c18
                      have c18b1 : ((Int.tmod x0_3 4) != 3) = false := bne_eq_false_iff_eq.mpr c18
                      clear c18
                      by_cases c19 : (Int.tmod x1_2 4) = 3
                      · rw [if_pos c19] at H
                        have c19b0 : ((Int.tmod x1_2 4) == 3) = true := beq_iff_eq.mpr c19
                        have c19b1 : ((Int.tmod x1_2 4) != 3) = false := bne_eq_false_iff_eq.mpr c19
                        clear c19
                        by_cases c20 : x0_3 = 0
                        · rw [if_pos c20] at H
                          exact absurd H (by simp)
                        · rw [if_neg c20] at H
                          have c20b0 : (x0_3 == 0) = false := beq_eq_false_iff_ne.mpr c20
                          have c20b1 : (x0_3 != 0) = true := bne_iff_ne.mpr c20
                          have H' := Aside0.mk H
                          clear H
                          go_wp2
                          go_roundg k3
                          case measure => have := HJ2.out; have := HK2.out; have := HK3.out; omega
                          case rel => exact ⟨(Int.tmod x1_2 x0_3), (x0_3), (wrap64 (-x6_3)), (by first | rfl | (simp; done) | (simp [*]; done)), (by first | rfl | (simp; done) | (simp [*]; done)), (by first | rfl | (simp; done) | (simp [*]; done)), H', ⟨by have := HJ2.out; have := HK2.out; have := HK3.out; omega⟩, ⟨by repeat (first | (with_reducible first | exact HB.out | apply below_alloc | apply pw_below_drewN | apply below_drew1) | exact HB.out)⟩⟩
                      · rw [if_neg c19] at H
                        have c19b0 : ((Int.tmod x1_2 4) == 3) = false := beq_eq_false_iff_ne.mpr c19
                        have c19b1 : ((Int.tmod x1_2 4) != 3) = true := bne_iff_ne.mpr c19
                        by_cases c21 : x0_3 = 0
                        · rw [if_pos c21] at H
                          exact absurd H (by simp)
                        · rw [if_neg c21] at H
                          have c21b0 : (x0_3 == 0) = false := beq_eq_false_iff_ne.mpr c21
                          have c21b1 : (x0_3 != 0) = true := bne_iff_ne.mpr c21
                          have H' := Aside0.mk H
                          clear H
                          go_wp2
                          go_roundg k3
                          case measure => have := HJ2.out; have := HK2.out; have := HK3.out; omega
                          case rel => exact ⟨(Int.tmod x1_2 x0_3), (x0_3), (x6_3), (by first | rfl | (simp; done) | (simp [*]; done)), (by first | rfl | (simp; done) | (simp [*]; done)), (by first | rfl | (simp; done) | (simp [*]; done)), H', ⟨by have := HJ2.out; have := HK2.out; have := HK3.out; omega⟩, ⟨by repeat (first | (with_reducible first | exact HB.out | apply below_alloc | apply pw_below_drewN | apply below_drew1) | exact HB.out)⟩⟩
                    · rw [if_neg c18] at H
                      have c18b0 : ((Int.tmod x0_3 4) == 3) = false := beq_eq_false_iff_ne.mpr c18
                      have c18b1 : ((Int.tmod x0_3 4) != 3) = true := bne_iff_ne.mpr c18
                      by_cases c22 : x0_3 = 0
                      · rw [if_pos c22] at H
                        exact absurd H (by simp)
                      · rw [if_neg c22] at H
                        have c22b0 : (x0_3 == 0) = false := beq_eq_false_iff_ne.mpr c22
                        have c22b1 : (x0_3 != 0) = true := bne_iff_ne.mpr c22
                        have H' := Aside0.mk H
                        clear H
                        go_wp2
                        go_roundg k3
                        case measure => have := HJ2.out; have := HK2.out; have := HK3.out; omega
                        case rel => exact ⟨(Int.tmod x1_2 x0_3), (x0_3), (x6_3), (by first | rfl | (simp; done) | (simp [*]; done)), (by first | rfl | (simp; done) | (simp [*]; done)), (by first | rfl | (simp; done) | (simp [*]; done)), H', ⟨by have := HJ2.out; have := HK2.out; have := HK3.out; omega⟩, ⟨by repeat (first | (with_reducible first | exact HB.out | apply below_alloc | apply pw_below_drewN | apply below_drew1) | exact HB.out)⟩⟩
            · rw [if_neg c14] at H
              have c14b0 : decide (0 < x0_2) = false := decide_eq_false c14
              clear c14
              by_cases c23 : x1_2 > 1
              · rw [if_pos c23] at H
                have c23b0 : decide (1 < x1_2) = true := decide_eq_true c23
                clear c23
                simp only [Option.some.injEq, Prod.mk.injEq] at H
                obtain ⟨rfl, rfl⟩ := H
                go_wp2
                go_ret2
                exact ⟨by first | rfl | (simp [errW_none, errW_some] <;> rfl) | (simp [*, errW_none, errW_some] <;> rfl), by repeat (first | (with_reducible first | exact HB.out | apply below_alloc | apply pw_below_drewN | apply below_drew1) | exact HB.out)⟩
              · rw [if_neg c23] at H
                have c23b0 : decide (1 < x1_2) = false := decide_eq_false c23
                clear c23
                simp only [Option.some.injEq, Prod.mk.injEq] at H
                obtain ⟨rfl, rfl⟩ := H
                go_wp2
                go_ret2
                exact ⟨by first | rfl | (simp [errW_none, errW_some] <;> rfl) | (simp [*, errW_none, errW_some] <;> rfl), by repeat (first | (with_reducible first | exact HB.out | apply below_alloc | apply pw_below_drewN | apply below_drew1) | exact HB.out)⟩

/-! ### reciprocity_mod: function 38 -/
def reciprocity_mod.f (a0 : Int) (a1 : Int) : Option (Int) := if a1 = 0 then (none) else (some (Int.tmod (wrap64 ((Int.tmod a0 a1) + a1)) a1))
set_option maxHeartbeats 8000000 in
set_option maxRecDepth 100000 in
theorem reciprocity_mod.calls (a0 : Int) (a1 : Int) (r : Int) (w : World) (h : reciprocity_mod.f a0 a1 = some r) :
    Calls Try.prog 38 #[.int .i64 a0, .int .i64 a1] w fun e w' => e = .returned (.int .i64 r) ∧ Drawn0 w w' := by
  have H : (if a1 = 0 then (none) else (some (Int.tmod (wrap64 ((Int.tmod a0 a1) + a1)) a1))) = some r := h
  clear h
  by_cases c3 : a1 = 0
  · rw [if_pos c3] at H
    exact absurd H (by simp)
  · rw [if_neg c3] at H
    have c3b0 : (a1 == 0) = false := beq_eq_false_iff_ne.mpr c3
    have c3b1 : (a1 != 0) = true := bne_iff_ne.mpr c3
    obtain rfl := Option.some.inj H
    go_enter Try.func38, Try.ntmps38
    go_wp2
    go_ret
    exact ⟨by first | rfl | (simp; done) | (simp [*]; done), by repeat (first | exact Drawn0.refl _ | apply Drawn0.step)⟩

-- NOT PRINTED: function 23 (reciprocity_character)

-- NOT PRINTED: function 24 (reciprocity_gauss)

/-! ### reciprocity_Gauss: function 10 -/
def reciprocity_Gauss.term (a p k : Int) : Option Int := if p = 0 then none else if (wrap64 (2 * (Int.tmod (wrap64 (k * a)) p))) > p then some 1 else some 0
def reciprocity_Gauss.l0 : Nat → Int → Int → Int → Int → Int → Option Int
  | 0, _, _, _, _, _ => none
  | q + 1, n, a, p, out, k => if k < n then (reciprocity_Gauss.term a p (wrap64 (k + 1))).bind fun t => reciprocity_Gauss.l0 q n a p (wrap64 (out + t)) (wrap64 (k + 1)) else some out
def reciprocity_Gauss.sgn (n : Int) : Int := wrap64 (1 - (wrap64 ((Int.tmod n 2) * 2)))
def reciprocity_Gauss.f1 (q : Nat) (a p : Int) : Option Int := (reciprocity_Gauss.l0 q (wrap64 (Int.tdiv (wrap64 (p - 1)) 2)) a p 0 0).bind fun t => some (reciprocity_Gauss.sgn t)
set_option maxHeartbeats 8000000 in
set_option maxRecDepth 100000 in
theorem reciprocity_Gauss.oneterm (ba bp : Nat) (a p k t : Int) (w : World) (hA : w.cell? ⟨ba, 0, none⟩ = some (.int .i64 a)) (hP : w.cell? ⟨bp, 0, none⟩ = some (.int .i64 p)) (h : reciprocity_Gauss.term a p k = some t) : Calls Try.prog 42 #[.int .i64 k, .pointer (some ⟨ba, 0, none⟩), .pointer (some ⟨bp, 0, none⟩)] w fun e w' => e = .returned (.int .i64 t) ∧ Drawn0 w w' := by
  unfold reciprocity_Gauss.term at h
  by_cases c0 : p = 0
  · rw [if_pos c0] at h
    cases h
  · rw [if_neg c0] at h
    have c0b : (p == 0) = false := beq_eq_false_iff_ne.mpr c0
    by_cases c1 : (wrap64 (2 * (Int.tmod (wrap64 (k * a)) p))) > p
    · rw [if_pos c1] at h
      obtain rfl := Option.some.inj h
      have c1b : decide (p < (wrap64 (2 * (Int.tmod (wrap64 (k * a)) p)))) = true := decide_eq_true c1
      go_enter Try.func42, Try.ntmps42
      go_wp2
      repeat (go_quiet (fail); try go_wp2)
      go_ret
      exact ⟨by first | rfl | (simp; done) | (simp [*]; done), by repeat (first | exact Drawn0.refl _ | apply Drawn0.step)⟩
    · rw [if_neg c1] at h
      obtain rfl := Option.some.inj h
      have c1b : decide (p < (wrap64 (2 * (Int.tmod (wrap64 (k * a)) p)))) = false := decide_eq_false c1
      go_enter Try.func42, Try.ntmps42
      go_wp2
      repeat (go_quiet (fail); try go_wp2)
      go_ret
      exact ⟨by first | rfl | (simp; done) | (simp [*]; done), by repeat (first | exact Drawn0.refl _ | apply Drawn0.step)⟩
set_option maxHeartbeats 8000000 in
set_option maxRecDepth 100000 in
theorem reciprocity_Gauss.sum (q ba bp : Nat) (n a p r : Int) (w : World) (hA : w.cell? ⟨ba, 0, none⟩ = some (.int .i64 a)) (hP : w.cell? ⟨bp, 0, none⟩ = some (.int .i64 p)) (h : reciprocity_Gauss.l0 q n a p 0 0 = some r) : Calls Try.prog 41 #[.int .i64 n, .func (.func 42) #[] #[.pointer (some ⟨ba, 0, none⟩), .pointer (some ⟨bp, 0, none⟩)]] w fun e w' => e = .returned (.int .i64 r) ∧ Drawn0 w w' := by
  have H' := Aside0.mk h
  clear h
  go_enter Try.func41, Try.ntmps41
  go_wp2
  go_loopg [5, 8] q (fun kq v5 v8 w' => ∃ (o_ k_ : Int), v5 = .int .i64 o_ ∧ v8 = .int .i64 k_ ∧ Aside0 (reciprocity_Gauss.l0 kq n a p o_ k_ = some r) ∧ Aside0 (kq ≤ q) ∧ Drawn0 w w')
  case atStart => exact ⟨0, 0, (by first | rfl | (simp; done) | (simp [*]; done)), (by first | rfl | (simp; done) | (simp [*]; done)), H', ⟨Nat.le_refl _⟩, by repeat (first | exact Drawn0.refl _ | apply Drawn0.step)⟩
  case round =>
    clear H'
    obtain ⟨o_, k_, rfl, rfl, HA, HK1, ⟨m1, rfl⟩⟩ := hrel
    cases gk with
    | zero => exact absurd HA.out (by simp [reciprocity_Gauss.l0])
    | succ q1 =>
      have H := HA.out
      clear HA
      simp only [reciprocity_Gauss.l0] at H
      by_cases c3 : k_ < n
      · rw [if_pos c3] at H
        have c3b0 : decide (k_ < n) = true := decide_eq_true c3
        clear c3
        replace H := Option.bind_eq_some_iff.mp H
        obtain ⟨t, A10, H⟩ := H
        have A1 := Aside0.mk A10
        have H' := Aside0.mk H
        clear A10 H
        go_wp2_with (go_at_call 42; (with_reducible refine (reciprocity_Gauss.oneterm ba bp a p (wrap64 (k_ + 1)) t _ ?hA ?hP A1.out).mono ?_); (case hA => exact hA); (case hP => exact hP); rintro e w' ⟨rfl, ⟨nd, rfl⟩⟩; (try first | exact ⟨rfl, _, World.drewN_drewN _ _ _⟩ | exact ⟨rfl, _, Eq.trans (World.drewN_drewN _ _ _) (congrArg (World.drewN _) (Nat.add_assoc _ _ _))⟩))
        go_roundg q1
        case measure => have := HK1.out; omega
        case rel => exact ⟨(wrap64 (o_ + t)), (wrap64 (k_ + 1)), (by first | rfl | (simp; done) | (simp [*]; done)), (by first | rfl | (simp; done) | (simp [*]; done)), H', ⟨by have := HK1.out; omega⟩, by repeat (first | exact Drawn0.refl _ | apply Drawn0.step)⟩
      · rw [if_neg c3] at H
        have c3b0 : decide (k_ < n) = false := decide_eq_false c3
        clear c3
        obtain rfl := Option.some.inj H
        go_wp2
        go_ret
        exact ⟨by first | rfl | (simp; done) | (simp [*]; done), by repeat (first | exact Drawn0.refl _ | apply Drawn0.step)⟩
set_option maxHeartbeats 8000000 in
set_option maxRecDepth 100000 in
theorem reciprocity_Gauss.sign (n : Int) (w : World) : Calls Try.prog 40 #[.int .i64 n] w fun e w' => e = .returned (.int .i64 (reciprocity_Gauss.sgn n)) ∧ Drawn0 w w' := by
  unfold reciprocity_Gauss.sgn
  go_enter Try.func40, Try.ntmps40
  go_wp2
  go_ret
  exact ⟨by first | rfl | (simp; done) | (simp [*]; done), by repeat (first | exact Drawn0.refl _ | apply Drawn0.step)⟩
set_option maxHeartbeats 8000000 in
set_option maxRecDepth 100000 in
theorem reciprocity_Gauss.find (q : Nat) (a p r : Int) (w : World) (h : reciprocity_Gauss.f1 q a p = some r) : Calls Try.prog 39 #[.int .i64 a, .int .i64 p] w fun e w' => e = .returned (.int .i64 r) ∧ Below w.heap.size w w' := by
  have hmf : ∀ (fn : Fn) (first cap : Array Value) (w : World), (Instr.makeFunc fn first cap).run Try.prog w = .ok (.func fn first cap) w := fun _ _ _ _ => rfl
  unfold reciprocity_Gauss.f1 at h
  replace h := Option.bind_eq_some_iff.mp h
  obtain ⟨t, A10, H⟩ := h
  obtain rfl := Option.some.inj H
  have A1 := Aside0.mk A10
  clear A10 H
  have hA : ((w.alloc (.cells #[.int .i64 a] 3)).alloc (.cells #[.int .i64 p] 3)).cell? ⟨w.heap.size, 0, none⟩ = some (.int .i64 a) := by rw [World.cell?_alloc_past _ _ _ (by simp), World.cell?_alloc_at _ _ _ _ rfl]; rfl
  have hP : ((w.alloc (.cells #[.int .i64 a] 3)).alloc (.cells #[.int .i64 p] 3)).cell? ⟨w.heap.size + 1, 0, none⟩ = some (.int .i64 p) := by rw [World.cell?_alloc_at _ _ _ _ (by simp)]; rfl
  have HB := Aside0.mk (show Below w.heap.size w ((w.alloc (.cells #[.int .i64 a] 3)).alloc (.cells #[.int .i64 p] 3)) from ((Below.refl _ _).alloc (Nat.le_refl _) _).alloc (by simp) _)
  go_enter Try.func39, Try.ntmps39
  go_wp2_with (first
    | (go_at_call 41; (with_reducible refine (reciprocity_Gauss.sum q w.heap.size (w.heap.size + 1) (wrap64 (Int.tdiv (wrap64 (p - 1)) 2)) a p t _ ?hA ?hP A1.out).mono ?_); (case hA => exact hA); (case hP => exact hP); rintro e w' ⟨rfl, ⟨nd, rfl⟩⟩)
    | (go_at_call 40; (with_reducible refine (reciprocity_Gauss.sign t _).mono ?_); rintro e w' ⟨rfl, ⟨nd2, rfl⟩⟩))
  go_ret
  exact ⟨rfl, by repeat (first | (with_reducible first | exact HB.out | apply below_alloc | apply pw_below_drewN | apply below_drew1) | exact HB.out)⟩
def reciprocity_Gauss.f (q : Nat) (a0 a1 : Int) : Option (Int × Int) := (reciprocity_check.f q [a1]).bind fun e => if e = 0 then ((reciprocity_mod.f a0 a1).bind fun m => if m = 0 then some (0, 0) else ((reciprocity_Gauss.f1 q m a1).bind fun t => some (t, 0))) else some (0, e)
set_option maxHeartbeats 8000000 in
set_option maxRecDepth 100000 in
theorem reciprocity_Gauss.char (s : ByteArray) (q : Nat) (a p r1 r2 : Int) (w : World) (h : reciprocity_Gauss.f q a p = some (r1, r2)) : Calls Try.prog 23 #[.agg #[.string s, .func (.func 39) #[] #[]], .int .i64 a, .int .i64 p] w fun e w' => e = .returned (.tuple #[.int .i64 r1, .int .i64 r2]) ∧ Below w.heap.size w w' := by
  unfold reciprocity_Gauss.f at h
  replace h := Option.bind_eq_some_iff.mp h
  obtain ⟨e0, A10, H⟩ := h
  have A1 := Aside0.mk A10
  clear A10
  have hC : Kd.C (Kd.int .i64) ((w.alloc (.cells #[.string s, .func (.func 39) #[] #[]] 47)).alloc (.cells #[.int .i64 p] 3)) (some ⟨w.heap.size + 1, 0, none⟩) 1 [p] := by
    refine Kd.C_of_reads (d := (0 : Int)) (h1 := fun _ => rfl) ⟨rfl, by decide, fun _ => ⟨⟨w.heap.size + 1, 0, none⟩, rfl, fun j hj => ?_⟩⟩
    obtain rfl : j = 0 := by omega
    show World.cell? _ ⟨w.heap.size + 1, 0 + 0, none⟩ = _
    rw [World.cell?_alloc_at _ _ _ _ (by simp)]
    rfl
  have HB := Aside0.mk (show Below w.heap.size w ((w.alloc (.cells #[.string s, .func (.func 39) #[] #[]] 47)).alloc (.cells #[.int .i64 p] 3)) from ((Below.refl _ _).alloc (Nat.le_refl _) _).alloc (by simp) _)
  have hF : ((w.alloc (.cells #[.string s, .func (.func 39) #[] #[]] 47)).alloc (.cells #[.int .i64 p] 3)).cell? ⟨w.heap.size, 1, none⟩ = some (.func (.func 39) #[] #[]) := by rw [World.cell?_alloc_past _ _ _ (by simp), World.cell?_alloc_at _ _ _ _ rfl]; rfl
  by_cases c1 : e0 = 0
  · rw [if_pos c1] at H
    subst c1
    replace H := Option.bind_eq_some_iff.mp H
    obtain ⟨m, A20, H⟩ := H
    have A2 := Aside0.mk A20
    clear A20
    by_cases c2 : m = 0
    · rw [if_pos c2] at H
      obtain ⟨rfl, rfl⟩ := Prod.mk.inj (Option.some.inj H)
      subst c2
      go_enter Try.func23, Try.ntmps23
      go_wp2_with (first
        | (go_at_call 29; (refine (reciprocity_check.calls q (some ⟨w.heap.size + 1, 0, none⟩) 1 [p] 0 _ hC (Nat.le_refl _) A1.out).mono ?_); rintro e w3 ⟨rfl, hb3⟩; have HB3 := Aside0.mk (HB.out.trans (hb3.mono (by first | (simp; done) | (simp; omega)))))
        | (go_at_call 38; (with_reducible refine (reciprocity_mod.calls a p 0 _ A2.out).mono ?_); rintro e w' ⟨rfl, ⟨nd, rfl⟩⟩))
      go_ret2
      exact ⟨rfl, by repeat (first | (with_reducible first | exact HB3.out | apply below_alloc | apply pw_below_drewN | apply below_drew1) | exact HB3.out)⟩
    · rw [if_neg c2] at H
      have c2b0 : (m == 0) = false := beq_eq_false_iff_ne.mpr c2
      replace H := Option.bind_eq_some_iff.mp H
      obtain ⟨t, A30, H⟩ := H
      obtain ⟨rfl, rfl⟩ := Prod.mk.inj (Option.some.inj H)
      have A3 := Aside0.mk A30
      clear A30
      go_enter Try.func23, Try.ntmps23
      go_wp2_with (first
        | (go_at_call 29; (refine (reciprocity_check.calls q (some ⟨w.heap.size + 1, 0, none⟩) 1 [p] 0 _ hC (Nat.le_refl _) A1.out).mono ?_); rintro e w3 ⟨rfl, hb3⟩; have hF3 := (hb3.cell (p := ⟨w.heap.size, 1, none⟩) (by first | (simp; done) | (simp; omega))).trans hF; have HB3 := Aside0.mk (HB.out.trans (hb3.mono (by first | (simp; done) | (simp; omega)))))
        | (go_at_call 38; (with_reducible refine (reciprocity_mod.calls a p m _ A2.out).mono ?_); rintro e w' ⟨rfl, ⟨nd, rfl⟩⟩))
      go_region_with (first
        | (go_at_call 38; (with_reducible refine (reciprocity_mod.calls a p m _ A2.out).mono ?_); rintro e w' ⟨rfl, ⟨nd4, rfl⟩⟩)
        | (go_at_call 39; (with_reducible refine (reciprocity_Gauss.find q m p t _ A3.out).mono ?_); rintro e w5 ⟨rfl, hb5⟩; have HB5 := Aside0.mk (below_step (by repeat (first | (with_reducible first | exact HB3.out | apply below_alloc | apply pw_below_drewN | apply below_drew1) | exact HB3.out)) hb5)))
      all_goals (try go_wp2)
      all_goals go_ret2
      all_goals exact ⟨rfl, by repeat (first | (with_reducible first | exact HB5.out | apply below_alloc | apply pw_below_drewN | apply below_drew1) | exact HB5.out)⟩
  · rw [if_neg c1] at H
    have c1b0 : (e0 == 0) = false := beq_eq_false_iff_ne.mpr c1
    obtain ⟨rfl, rfl⟩ := Prod.mk.inj (Option.some.inj H)
    go_enter Try.func23, Try.ntmps23
    go_wp2_with (go_at_call 29; (refine (reciprocity_check.calls q (some ⟨w.heap.size + 1, 0, none⟩) 1 [p] e0 _ hC (Nat.le_refl _) A1.out).mono ?_); rintro e w3 ⟨rfl, hb3⟩; have HB3 := Aside0.mk (HB.out.trans (hb3.mono (by first | (simp; done) | (simp; omega)))))
    go_ret2
    exact ⟨rfl, HB3.out⟩
set_option maxHeartbeats 8000000 in
set_option maxRecDepth 100000 in
theorem reciprocity_Gauss.way (w : World) : Calls Try.prog 24 #[] w fun e w' => e = .returned (.agg #[.string ⟨#[71, 97, 117, 115, 115]⟩, .func (.func 39) #[] #[]]) ∧ Below w.heap.size w w' := by
  have hmf : ∀ (fn : Fn) (first cap : Array Value) (w : World), (Instr.makeFunc fn first cap).run Try.prog w = .ok (.func fn first cap) w := fun _ _ _ _ => rfl
  have hsf : ∀ (a : Addr) (fn : Fn) (first captured : Array Value) (m : Mode) (w : World), (store a (.func fn first captured) m).run Try.prog w = stored Try.prog w a (.func fn first captured) m := fun a fn f c m w => run_store Try.prog w a _ m rfl
  have HB := Aside0.mk (Below.refl w.heap.size w)
  go_enter Try.func24, Try.ntmps24
  go_wp2
  refine bodyPost_ret (results_cell_row rfl _ _ w.heap.size 47 #[.string ⟨#[71, 97, 117, 115, 115]⟩, .func (.func 39) #[] #[]] (0, 0) _ rfl (by show (w.heap.push _)[w.heap.size]? = _; simp) Try.underlying47 rfl (by kernel_rfl)) rfl ?_
  exact ⟨by first | rfl | (simp; done), by repeat (first | (with_reducible first | exact HB.out | apply below_alloc | apply pw_below_drewN | apply below_drew1) | exact HB.out)⟩
theorem reciprocity_Gauss.mono_0 : ∀ k n a p o x, LeO (reciprocity_Gauss.l0 k n a p o x) (reciprocity_Gauss.l0 (k + 1) n a p o x)
  | 0, _, _, _, _, _ => fun r h => by simp [reciprocity_Gauss.l0] at h
  | k + 1, n, a, p, o, x => by
    unfold reciprocity_Gauss.l0
    exact LeO.ite (LeO.bind (LeO.refl _) fun t => reciprocity_Gauss.mono_0 k _ _ _ _ _) (LeO.refl _)
theorem reciprocity_Gauss.mono : ∀ a0 a1 k, LeO (reciprocity_Gauss.f k a0 a1) (reciprocity_Gauss.f (k + 1) a0 a1) := by
  intro a0 a1 k
  unfold reciprocity_Gauss.f reciprocity_Gauss.f1
  exact LeO.bind (reciprocity_check.mono _ _) fun e => LeO.ite (LeO.bind (LeO.refl _) fun m => LeO.ite (LeO.refl _) (LeO.bind (LeO.bind (reciprocity_Gauss.mono_0 _ _ _ _ _ _) fun _ => LeO.refl _) fun _ => LeO.refl _)) (LeO.refl _)
set_option maxHeartbeats 8000000 in
set_option maxRecDepth 100000 in
theorem reciprocity_Gauss.calls (k : Nat) (a0 a1 : Int) (r1 r2 : Int) (w : World) (h : reciprocity_Gauss.f k a0 a1 = some (r1, r2)) :
    Calls Try.prog 10 #[.int .i64 a0, .int .i64 a1] w fun e w' => e = .returned (.tuple #[.int .i64 r1, .int .i64 r2]) ∧ Below w.heap.size w w' := by
  have hmf : ∀ (fn : Fn) (first cap : Array Value) (w : World), (Instr.makeFunc fn first cap).run Try.prog w = .ok (.func fn first cap) w := fun _ _ _ _ => rfl
  have A1 := Aside0.mk h
  clear h
  go_enter Try.func10, Try.ntmps10
  have HB := Aside0.mk (Below.refl w.heap.size w)
  go_wp2_with (first
    | (go_at_call 24; (refine (reciprocity_Gauss.way _).mono ?_); rintro e w2 ⟨rfl, hb2⟩; have HB2 := Aside0.mk (below_step (by repeat (first | (with_reducible first | exact HB.out | apply below_alloc | apply pw_below_drewN | apply below_drew1) | exact HB.out)) hb2))
    | (go_at_call 23; (refine (reciprocity_Gauss.char _ k a0 a1 r1 r2 _ A1.out).mono ?_); rintro e w3 ⟨rfl, hb3⟩; have HB3 := Aside0.mk (below_step (by repeat (first | (with_reducible first | exact HB2.out | apply below_alloc | apply pw_below_drewN | apply below_drew1) | exact HB2.out)) hb3)))
  go_ret2
  exact ⟨rfl, HB3.out⟩


/-! ### residue_gcd: function 25 -/
def residue_gcd.l0 : Nat → Int → Int → Option (Int)
  | 0, _, _ => none
  | k + 1, x0, x1 => if x1 > 0 then (if x1 = 0 then (none) else (residue_gcd.l0 k x1 (Int.tmod x0 x1))) else (some x0)
def residue_gcd.f (k : Nat) (a0 : Int) (a1 : Int) : Option (Int) := residue_gcd.l0 k a0 a1
theorem residue_gcd.mono_l : ∀ k, (∀ y0 y1, LeO (residue_gcd.l0 k y0 y1) (residue_gcd.l0 (k + 1) y0 y1))
  | 0 => fun _ _ r h => by simp [residue_gcd.l0] at h
  | k + 1 => by
    have ih0 := residue_gcd.mono_l k
    · intro y0 y1
      unfold residue_gcd.l0
      repeat' first
      | (with_reducible exact ih0 _ _)
      | (with_reducible exact LeO.refl _)
      | (with_reducible exact LeO.none _)
      | (with_reducible refine LeO.ite ?_ ?_)
      | (with_reducible refine LeO.bind ?_ (fun _ => ?_))
      | exact ih0 _ _
      | exact LeO.none _
      | refine LeO.ite ?_ ?_
      | refine LeO.bind ?_ (fun _ => ?_)
theorem residue_gcd.mono : ∀ a0 a1 k, LeO (residue_gcd.f k a0 a1) (residue_gcd.f (k + 1) a0 a1) := by
  intro a0 a1 k
  have ih0 := residue_gcd.mono_l k
  unfold residue_gcd.f
  repeat' first
      | (with_reducible exact ih0 _ _)
      | (with_reducible exact LeO.refl _)
      | (with_reducible exact LeO.none _)
      | (with_reducible refine LeO.ite ?_ ?_)
      | (with_reducible refine LeO.bind ?_ (fun _ => ?_))
      | exact ih0 _ _
      | exact LeO.none _
      | refine LeO.ite ?_ ?_
      | refine LeO.bind ?_ (fun _ => ?_)
set_option maxHeartbeats 8000000 in
set_option maxRecDepth 100000 in
theorem residue_gcd.calls (k : Nat) (a0 : Int) (a1 : Int) (r : Int) (w : World) (h : residue_gcd.f k a0 a1 = some r) :
    Calls Try.prog 25 #[.int .i64 a0, .int .i64 a1] w fun e w' => e = .returned (.int .i64 r) ∧ Drawn0 w w' := by
  have H : (residue_gcd.l0 k a0 a1) = some r := h
  clear h
  have H' := Aside0.mk H
  clear H
  go_enter Try.func25, Try.ntmps25
  go_wp2
  repeat (go_quiet (fail); try go_wp2)
  go_loopg [0, 1] k (fun kq v0 v1 w' => ∃ (x0_1 : Int) (x1_1 : Int), v0 = .int .i64 x0_1 ∧ v1 = .int .i64 x1_1 ∧ Aside0 (residue_gcd.l0 kq x0_1 x1_1 = some r) ∧ Aside0 (kq ≤ k) ∧ Drawn0 w w')
  case atStart => exact ⟨(a0), (a1), (by first | rfl | (simp; done) | (simp [*]; done)), (by first | rfl | (simp; done) | (simp [*]; done)), H', ⟨Nat.le_refl _⟩, by repeat (first | exact Drawn0.refl _ | apply Drawn0.step)⟩
  case round =>
    clear H'
    try clear c2
    try clear p2
    obtain ⟨x0_1, x1_1, rfl, rfl, HA, HK1, ⟨m1, rfl⟩⟩ := hrel
    cases gk with
    | zero => exact absurd HA.out (by simp [residue_gcd.l0])
    | succ k1 =>
      have H := HA.out
      clear HA
      simp only [residue_gcd.l0] at H
      by_cases c3 : x1_1 > 0
      · rw [if_pos c3] at H
        have c3b0 : decide (0 < x1_1) = true := decide_eq_true c3
        clear c3
        by_cases c4 : x1_1 = 0
        · rw [if_pos c4] at H
          exact absurd H (by simp)
        · rw [if_neg c4] at H
          have c4b0 : (x1_1 == 0) = false := beq_eq_false_iff_ne.mpr c4
          have c4b1 : (x1_1 != 0) = true := bne_iff_ne.mpr c4
          have H' := Aside0.mk H
          clear H
          go_wp2
          repeat (go_quiet (fail); try go_wp2)
          go_roundg k1
          case measure => have := HK1.out; omega
          case rel => exact ⟨(x1_1), (Int.tmod x0_1 x1_1), (by first | rfl | (simp; done) | (simp [*]; done)), (by first | rfl | (simp; done) | (simp [*]; done)), H', ⟨by have := HK1.out; omega⟩, by repeat (first | exact Drawn0.refl _ | apply Drawn0.step)⟩
      · rw [if_neg c3] at H
        have c3b0 : decide (0 < x1_1) = false := decide_eq_false c3
        clear c3
        obtain rfl := Option.some.inj H
        go_wp2
        repeat (go_quiet (fail); try go_wp2)
        go_ret
        exact ⟨by first | rfl | (simp; done) | (simp [*]; done), by repeat (first | exact Drawn0.refl _ | apply Drawn0.step)⟩

/-! ### residue_totient: function 26 -/
def residue_totient.l0 : Nat → Int → List (S53) → Int → Int → Option (Int)
  | 0, _, _, _, _ => none
  | k + 1, x0, x6, x7, x8 => if x8 < x7 then (if 0 ≤ x8 then (if x8 < (x6.length : Int) then (if ((rd_T53 x6 x8).f0) = 0 then (none) else (residue_totient.l0 k (wrap64 ((wrap64 (Int.tdiv x0 ((rd_T53 x6 x8).f0))) * (wrap64 (((rd_T53 x6 x8).f0) - 1)))) x6 x7 (wrap64 (x8 + 1)))) else (none)) else (none)) else (some x0)
def residue_totient.f (k : Nat) (a0 : Int) : Option (Int) := (residue_factor.f k a0).bind fun t259 => (residue_totient.l0 k a0 t259 (t259.length : Int) 0)
theorem residue_totient.mono_l : ∀ k, (∀ y0 y1 y2 y3, LeO (residue_totient.l0 k y0 y1 y2 y3) (residue_totient.l0 (k + 1) y0 y1 y2 y3))
  | 0 => fun _ _ _ _ r h => by simp [residue_totient.l0] at h
  | k + 1 => by
    have ih0 := residue_totient.mono_l k
    · intro y0 y1 y2 y3
      unfold residue_totient.l0
      repeat' first
      | (with_reducible exact ih0 _ _ _ _)
      | (with_reducible exact residue_factor.mono _ _)
      | (with_reducible exact LeO.refl _)
      | (with_reducible exact LeO.none _)
      | (with_reducible refine LeO.ite ?_ ?_)
      | (with_reducible refine LeO.bind ?_ (fun _ => ?_))
      | exact ih0 _ _ _ _
      | exact residue_factor.mono _ _
      | exact LeO.none _
      | refine LeO.ite ?_ ?_
      | refine LeO.bind ?_ (fun _ => ?_)
theorem residue_totient.mono : ∀ a0 k, LeO (residue_totient.f k a0) (residue_totient.f (k + 1) a0) := by
  intro a0 k
  have ih0 := residue_totient.mono_l k
  unfold residue_totient.f
  repeat' first
      | (with_reducible exact ih0 _ _ _ _)
      | (with_reducible exact residue_factor.mono _ _)
      | (with_reducible exact LeO.refl _)
      | (with_reducible exact LeO.none _)
      | (with_reducible refine LeO.ite ?_ ?_)
      | (with_reducible refine LeO.bind ?_ (fun _ => ?_))
      | exact ih0 _ _ _ _
      | exact residue_factor.mono _ _
      | exact LeO.none _
      | refine LeO.ite ?_ ?_
      | refine LeO.bind ?_ (fun _ => ?_)
set_option maxHeartbeats 8000000 in
set_option maxRecDepth 100000 in
theorem residue_totient.calls (k : Nat) (a0 : Int) (r : Int) (w : World) (h : residue_totient.f k a0 = some r) :
    Calls Try.prog 26 #[.int .i64 a0] w fun e w' => e = .returned (.int .i64 r) ∧ Below w.heap.size w w' := by
  have hu53 := Try.underlying53
  have HB := Aside0.mk (Below.refl w.heap.size w)
  have H : ((residue_factor.f k a0).bind fun t259 => (residue_totient.l0 k a0 t259 (t259.length : Int) 0)) = some r := h
  clear h
  replace H := Option.bind_eq_some_iff.mp H
  obtain ⟨t259, A20, H⟩ := H
  replace H : (residue_totient.l0 k a0 t259 (t259.length : Int) 0) = some r := H
  have A2 := Aside0.mk A20
  clear A20
  have H' := Aside0.mk H
  clear H
  go_enter Try.func26, Try.ntmps26
  go_wp2_with (first | (go_at_call 27; (with_reducible refine (residue_factor.calls k a0 t259 _ A2.out).mono ?_); rintro e w3 ⟨v260, rfl, ho0, hb⟩; have n0_ := Aside0.mk (Kd.R_lower ho0 (below_size (by repeat (first | (with_reducible first | exact HB.out | apply below_alloc | apply pw_below_drewN | apply below_drew1) | exact HB.out)))); have n1_ := Aside0.mk (below_step (by repeat (first | (with_reducible first | exact HB.out | apply below_alloc | apply pw_below_drewN | apply below_drew1) | exact HB.out)) hb); clear HB; have HO261 := n0_; have HB := n1_; clear n0_ n1_; (try clear hb); (try clear hb2); (try clear hk); (try clear hi); (try clear ho0); obtain ⟨Ao4, co4, eo4⟩ := Kd.R_slice HO261.out; subst eo4))
  repeat (go_quiet (first | (go_at_call 27; (with_reducible refine (residue_factor.calls k a0 t259 _ A2.out).mono ?_); rintro e w3 ⟨v260, rfl, ho0, hb⟩; have n0_ := Aside0.mk (Kd.R_lower ho0 (below_size (by repeat (first | (with_reducible first | exact HB.out | apply below_alloc | apply pw_below_drewN | apply below_drew1) | exact HB.out)))); have n1_ := Aside0.mk (below_step (by repeat (first | (with_reducible first | exact HB.out | apply below_alloc | apply pw_below_drewN | apply below_drew1) | exact HB.out)) hb); clear HB; have HO261 := n0_; have HB := n1_; clear n0_ n1_; (try clear hb); (try clear hb2); (try clear hk); (try clear hi); (try clear ho0); obtain ⟨Ao4, co4, eo4⟩ := Kd.R_slice HO261.out; subst eo4)); try go_wp2_with (first | (go_at_call 27; (with_reducible refine (residue_factor.calls k a0 t259 _ A2.out).mono ?_); rintro e w3 ⟨v260, rfl, ho0, hb⟩; have n0_ := Aside0.mk (Kd.R_lower ho0 (below_size (by repeat (first | (with_reducible first | exact HB.out | apply below_alloc | apply pw_below_drewN | apply below_drew1) | exact HB.out)))); have n1_ := Aside0.mk (below_step (by repeat (first | (with_reducible first | exact HB.out | apply below_alloc | apply pw_below_drewN | apply below_drew1) | exact HB.out)) hb); clear HB; have HO261 := n0_; have HB := n1_; clear n0_ n1_; (try clear hb); (try clear hb2); (try clear hk); (try clear hi); (try clear ho0); obtain ⟨Ao4, co4, eo4⟩ := Kd.R_slice HO261.out; subst eo4)))
  go_loopg [0, 8] k (fun kq v0 v8 w' => ∃ (x0_1 : Int) (x8_1 : Int), v0 = .int .i64 x0_1 ∧ v8 = .int .i64 x8_1 ∧ Aside0 (residue_totient.l0 kq x0_1 t259 (t259.length : Int) x8_1 = some r) ∧ Aside0 (kq ≤ k) ∧ Aside0 (Kd.R k53 53 w' w.heap.size (fun _ => True) (.slice Ao4 t259.length co4) t259) ∧ Aside0 (Below w.heap.size w w'))
  case atStart => exact ⟨(a0), (0), (by first | rfl | (simp; done) | (simp [*]; done)), (by first | rfl | (simp; done) | (simp [*]; done)), H', ⟨Nat.le_refl _⟩, ⟨by (with_reducible repeat (first | apply Kd.R_alloc | apply Kd.R_drewN | apply Kd.R_drew)); exact HO261.out⟩, ⟨by repeat (first | (with_reducible first | exact HB.out | apply below_alloc | apply pw_below_drewN | apply below_drew1) | exact HB.out)⟩⟩
  case round =>
    clear H'
    try clear c2
    try clear p2
    obtain ⟨x0_1, x8_1, rfl, rfl, HA, HK1, HO_6, HB⟩ := hrel
    cases gk with
    | zero => exact absurd HA.out (by simp [residue_totient.l0])
    | succ k1 =>
      have H := HA.out
      clear HA
      simp only [residue_totient.l0] at H
      by_cases c5 : x8_1 < (t259.length : Int)
      · rw [if_pos c5] at H
        have c5b0 : decide (x8_1 < (t259.length : Int)) = true := decide_eq_true c5
        clear c5
        by_cases c6 : 0 ≤ x8_1
        · rw [if_pos c6] at H
          have c6b0 : decide (0 ≤ x8_1) = true := decide_eq_true c6
          clear c6
          by_cases c7 : x8_1 < (t259.length : Int)
          · rw [if_pos c7] at H
            have c7b0 : decide (x8_1 < (t259.length : Int)) = true := decide_eq_true c7
            clear c7
            by_cases c8 : ((rd_T53 t259 x8_1).f0) = 0
            · rw [if_pos c8] at H
              exact absurd H (by simp)
            · rw [if_neg c8] at H
              have c8b0 : (((rd_T53 t259 x8_1).f0) == 0) = false := beq_eq_false_iff_ne.mpr c8
              have c8b1 : (((rd_T53 t259 x8_1).f0) != 0) = true := bne_iff_ne.mpr c8
              have H' := Aside0.mk H
              clear H
              have p262 : 0 ≤ (x8_1 : Int) := of_decide_eq_true (by first | (with_reducible assumption) | assumption)
              have q262 : x8_1 < (t259.length : Int) := of_decide_eq_true (by first | (with_reducible assumption) | assumption)
              obtain ⟨ad262, e262, hx262_0, hx262_1⟩ := at_T53 (Kd.R_reads' HO_6.out).2.2 x8_1 p262 q262
              cases e262
              replace p262 := eq_true p262
              replace q262 := eq_true q262
              go_wp2_with (first | ((with_reducible refine gate_dst (N := 4) rfl ?_); refine box_event ?hg (N := 4) ?hd (cs := #[.int .i64 0, .int .i64 0]) (t := 53) ?hr ?_; (case hd => rfl); (case hg => rfl); (case hr => first | (go_simp; done) | (go_simp; rfl)); intro gb263 hg w9 hbox hb; have n0_ := Aside0.mk (Kd.R_below (Kd.R_elderB (by (with_reducible repeat (first | apply Kd.R_alloc | apply Kd.R_drewN | apply Kd.R_drew)); exact HO_6.out) gb263 (Nat.le_of_eq hg.symm)) hb); have n1_ := Aside0.mk (below_step (by repeat (first | (with_reducible first | exact HB.out | apply below_alloc | apply pw_below_drewN | apply below_drew1) | exact HB.out)) hb); have n2_ := Aside0.mk (hbox); have n3_ := Aside0.mk ((by rw [hg]; exact (below_size (by repeat (first | (with_reducible first | exact HB.out | apply below_alloc | apply pw_below_drewN | apply below_drew1) | exact HB.out))) : w.heap.size ≤ gb263)); have n4_ := Aside0.mk ((by rw [hg]; exact (below_size (by repeat (first | (with_reducible first | exact HB.out | apply below_alloc | apply pw_below_drewN | apply below_drew1) | exact HB.out))) : w.heap.size ≤ gb263)); clear HO_6; clear HB; have HO_6 := n0_; have HB := n1_; have BK263 := n2_; have GW263 := n3_; have GE263 := n4_; clear n0_ n1_ n2_ n3_ n4_; clear hb hbox hg; have hcz10_0 : w9.cell? ⟨gb263, 0, none⟩ = some (.int .i64 0) := (blk_cell BK263.out 0).trans rfl; have hcz10_1 : w9.cell? ⟨gb263, 1, none⟩ = some (.int .i64 0) := (blk_cell BK263.out 1).trans rfl; have hfz10_0 := blk_frozen BK263.out 0; have hfz10_1 := blk_frozen BK263.out 1))
              repeat (go_quiet (first | ((with_reducible refine gate_dst (N := 4) rfl ?_); refine box_event ?hg (N := 4) ?hd (cs := #[.int .i64 0, .int .i64 0]) (t := 53) ?hr ?_; (case hd => rfl); (case hg => rfl); (case hr => first | (go_simp; done) | (go_simp; rfl)); intro gb263 hg w9 hbox hb; have n0_ := Aside0.mk (Kd.R_below (Kd.R_elderB (by (with_reducible repeat (first | apply Kd.R_alloc | apply Kd.R_drewN | apply Kd.R_drew)); exact HO_6.out) gb263 (Nat.le_of_eq hg.symm)) hb); have n1_ := Aside0.mk (below_step (by repeat (first | (with_reducible first | exact HB.out | apply below_alloc | apply pw_below_drewN | apply below_drew1) | exact HB.out)) hb); have n2_ := Aside0.mk (hbox); have n3_ := Aside0.mk ((by rw [hg]; exact (below_size (by repeat (first | (with_reducible first | exact HB.out | apply below_alloc | apply pw_below_drewN | apply below_drew1) | exact HB.out))) : w.heap.size ≤ gb263)); have n4_ := Aside0.mk ((by rw [hg]; exact (below_size (by repeat (first | (with_reducible first | exact HB.out | apply below_alloc | apply pw_below_drewN | apply below_drew1) | exact HB.out))) : w.heap.size ≤ gb263)); clear HO_6; clear HB; have HO_6 := n0_; have HB := n1_; have BK263 := n2_; have GW263 := n3_; have GE263 := n4_; clear n0_ n1_ n2_ n3_ n4_; clear hb hbox hg; have hcz10_0 : w9.cell? ⟨gb263, 0, none⟩ = some (.int .i64 0) := (blk_cell BK263.out 0).trans rfl; have hcz10_1 : w9.cell? ⟨gb263, 1, none⟩ = some (.int .i64 0) := (blk_cell BK263.out 1).trans rfl; have hfz10_0 := blk_frozen BK263.out 0; have hfz10_1 := blk_frozen BK263.out 1)); try go_wp2_with (first | ((with_reducible refine gate_dst (N := 4) rfl ?_); refine box_event ?hg (N := 4) ?hd (cs := #[.int .i64 0, .int .i64 0]) (t := 53) ?hr ?_; (case hd => rfl); (case hg => rfl); (case hr => first | (go_simp; done) | (go_simp; rfl)); intro gb263 hg w9 hbox hb; have n0_ := Aside0.mk (Kd.R_below (Kd.R_elderB (by (with_reducible repeat (first | apply Kd.R_alloc | apply Kd.R_drewN | apply Kd.R_drew)); exact HO_6.out) gb263 (Nat.le_of_eq hg.symm)) hb); have n1_ := Aside0.mk (below_step (by repeat (first | (with_reducible first | exact HB.out | apply below_alloc | apply pw_below_drewN | apply below_drew1) | exact HB.out)) hb); have n2_ := Aside0.mk (hbox); have n3_ := Aside0.mk ((by rw [hg]; exact (below_size (by repeat (first | (with_reducible first | exact HB.out | apply below_alloc | apply pw_below_drewN | apply below_drew1) | exact HB.out))) : w.heap.size ≤ gb263)); have n4_ := Aside0.mk ((by rw [hg]; exact (below_size (by repeat (first | (with_reducible first | exact HB.out | apply below_alloc | apply pw_below_drewN | apply below_drew1) | exact HB.out))) : w.heap.size ≤ gb263)); clear HO_6; clear HB; have HO_6 := n0_; have HB := n1_; have BK263 := n2_; have GW263 := n3_; have GE263 := n4_; clear n0_ n1_ n2_ n3_ n4_; clear hb hbox hg; have hcz10_0 : w9.cell? ⟨gb263, 0, none⟩ = some (.int .i64 0) := (blk_cell BK263.out 0).trans rfl; have hcz10_1 : w9.cell? ⟨gb263, 1, none⟩ = some (.int .i64 0) := (blk_cell BK263.out 1).trans rfl; have hfz10_0 := blk_frozen BK263.out 0; have hfz10_1 := blk_frozen BK263.out 1)))
              go_roundg k1
              case measure => have := HK1.out; omega
              case rel => exact ⟨(wrap64 ((wrap64 (Int.tdiv x0_1 ((rd_T53 t259 x8_1).f0))) * (wrap64 (((rd_T53 t259 x8_1).f0) - 1)))), (wrap64 (x8_1 + 1)), (by first | rfl | (simp; done) | (simp [*]; done)), (by first | rfl | (simp; done) | (simp [*]; done)), H', ⟨by have := HK1.out; omega⟩, ⟨by (with_reducible repeat (first | apply Kd.R_alloc | apply Kd.R_drewN | apply Kd.R_drew)); exact Kd.R_mono (Kd.R_far (p := ⟨gb263, 1, none⟩) (Kd.R_far (p := ⟨gb263, 0, none⟩) (Kd.R_mono HO_6.out (fun k_ hk => (⟨hk, hk.2⟩ : _ ∧ k_ ≠ gb263))) (fun _ hk => hk.2) (.int .i64 ((rd_T53 t259 x8_1).f0))) (fun _ hk => hk.2) (.int .i64 ((rd_T53 t259 x8_1).f1))) (fun _ hk => trivial)⟩, ⟨by repeat (first | (with_reducible first | exact HB.out | apply below_alloc | apply pw_below_drewN | apply below_drew1 | refine below_set ?_ GE263.out) | exact HB.out)⟩⟩
          · rw [if_neg c7] at H
            exact absurd H (by simp)
        · rw [if_neg c6] at H
          exact absurd H (by simp)
      · rw [if_neg c5] at H
        have c5b0 : decide (x8_1 < (t259.length : Int)) = false := decide_eq_false c5
        clear c5
        obtain rfl := Option.some.inj H
        go_wp2
        repeat (go_quiet (fail); try go_wp2)
        go_ret
        exact ⟨by first | rfl | (simp [errW_none, errW_some] <;> rfl) | (simp [*, errW_none, errW_some] <;> rfl), by repeat (first | (with_reducible first | exact HB.out | apply below_alloc | apply pw_below_drewN | apply below_drew1) | exact HB.out)⟩

end Go.Proofs.Ytobbdbkcailfkaa.PTopZolotarev
