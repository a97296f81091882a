-- Printed by wip/tools/mk.py of this repo (the kit's print with turns made in memory).
import Derived.Test.YtoaalfpfklchfaaDoorPPermCyclesx0
import Derived.Test.YtoaalfpfklchfaaDoorPPermCyclesx2
import Derived.Test.YtoaalfpfklchfaaDoorPPermCyclesx4
import Derived.Test.YtoaalfpfklchfaaDoorPPermCyclesx5
import Derived.Test.YtoaalfpfklchfaaDoorPPermCyclesx6
import Derived.Test.YtoaalfpfklchfaaDoorPPermCyclesx7
namespace Go.Proofs.YtoaalfpfklchfaaDoor.PPermCycles
open Go.RowKit Go.Proofs.YtoaalfpfklchfaaDoorW.PrintWords Go.Proofs.YtoaalfpfklchfaaDoorW.PrintLast Go.Proofs.YtoaalfpfklchfaaDoorW.PrintMore
attribute [local go_sem] max2_int min2_int max_two min_two max_three min_three max_four min_four   -- for this text's walks alone
set_option linter.unusedVariables false
set_option linter.unusedSimpArgs false

/-! ### galoislaw22_PermCycles: function 4 -/
mutual
def galoislaw22_PermCycles.j0 : Nat → Int → List (List Int) → Bool → Option (Bool)
  | 0, _, _, _ => none
  | k + 1, x0, x1, x22 => if x22 = true then ((galoislaw22_awake.f k).bind fun t249 => (some t249)) else ((perm_Identity.f k x0).bind fun bt250 => ((perm_FromCycles.f k x0 x1).bind fun bt254 => ((galoisref22_FromCycles.f k x0 x1).bind fun bt258 => ((galoisref22_Degree.f x0).bind fun t262 => (if bt250.2 = t262 then (if bt254.2 = bt258.2 then ((galoisref22_Same.f k bt254.1 bt258.1).bind fun t263 => (galoislaw22_PermCycles.j1 k x0 bt250.1 bt250.2 (!t263))) else (galoislaw22_PermCycles.j1 k x0 bt250.1 bt250.2 true)) else (galoislaw22_PermCycles.j1 k x0 bt250.1 bt250.2 true))))))
def galoislaw22_PermCycles.j1 : Nat → Int → List Int → Int → Bool → Option (Bool)
  | 0, _, _, _, _ => none
  | k + 1, x0, x5, x6, x55 => if x55 = true then (some false) else (if x6 = 0 then ((galoisref22_Identity.f k x0).bind fun t264 => ((galoisref22_Same.f k x5 t264).bind fun t267 => (some t267))) else (if (x5.length : Int) = 0 then (some true) else (some false)))
end
def galoislaw22_PermCycles.f (k : Nat) (a0 : Int) (l1 : List (List Int)) : Option (Bool) := (galoislaw22_awake.f k).bind fun t247 => (if t247 = true then (if (l1.length : Int) > 40 then (galoislaw22_PermCycles.j0 k a0 l1 true) else ((galoislaw22_few.f k l1).bind fun t248 => (galoislaw22_PermCycles.j0 k a0 l1 (!t248)))) else (galoislaw22_PermCycles.j0 k a0 l1 true))
theorem galoislaw22_PermCycles.mono_l : ∀ k, (∀ y0 y1 y2, LeO (galoislaw22_PermCycles.j0 k y0 y1 y2) (galoislaw22_PermCycles.j0 (k + 1) y0 y1 y2)) ∧ (∀ y0 y1 y2 y3, LeO (galoislaw22_PermCycles.j1 k y0 y1 y2 y3) (galoislaw22_PermCycles.j1 (k + 1) y0 y1 y2 y3))
  | 0 => ⟨fun _ _ _ r h => by simp [galoislaw22_PermCycles.j0] at h, fun _ _ _ _ r h => by simp [galoislaw22_PermCycles.j1] at h⟩
  | k + 1 => by
    obtain ⟨ih0, ih1⟩ := galoislaw22_PermCycles.mono_l k
    refine ⟨?_, ?_⟩
    · intro y0 y1 y2
      unfold galoislaw22_PermCycles.j0
      repeat' first
      | (with_reducible exact ih0 _ _ _)
      | (with_reducible exact ih1 _ _ _ _)
      | (with_reducible exact galoislaw22_awake.mono _)
      | (with_reducible exact galoislaw22_few.mono _ _)
      | (with_reducible exact galoisref22_FromCycles.mono _ _ _)
      | (with_reducible exact galoisref22_Identity.mono _ _)
      | (with_reducible exact galoisref22_Same.mono _ _ _)
      | (with_reducible exact perm_FromCycles.mono _ _ _)
      | (with_reducible exact perm_Identity.mono _ _)
      | (with_reducible exact LeO.refl _)
      | (with_reducible exact LeO.none _)
      | (with_reducible refine LeO.ite ?_ ?_)
      | (with_reducible refine LeO.bind ?_ (fun _ => ?_))
      | exact ih0 _ _ _
      | exact ih1 _ _ _ _
      | exact galoislaw22_awake.mono _
      | exact galoislaw22_few.mono _ _
      | exact galoisref22_FromCycles.mono _ _ _
      | exact galoisref22_Identity.mono _ _
      | exact galoisref22_Same.mono _ _ _
      | exact perm_FromCycles.mono _ _ _
      | exact perm_Identity.mono _ _
      | exact LeO.none _
      | refine LeO.ite ?_ ?_
      | refine LeO.bind ?_ (fun _ => ?_)
    · intro y0 y1 y2 y3
      unfold galoislaw22_PermCycles.j1
      repeat' first
      | (with_reducible exact ih0 _ _ _)
      | (with_reducible exact ih1 _ _ _ _)
      | (with_reducible exact galoislaw22_awake.mono _)
      | (with_reducible exact galoislaw22_few.mono _ _)
      | (with_reducible exact galoisref22_FromCycles.mono _ _ _)
      | (with_reducible exact galoisref22_Identity.mono _ _)
      | (with_reducible exact galoisref22_Same.mono _ _ _)
      | (with_reducible exact perm_FromCycles.mono _ _ _)
      | (with_reducible exact perm_Identity.mono _ _)
      | (with_reducible exact LeO.refl _)
      | (with_reducible exact LeO.none _)
      | (with_reducible refine LeO.ite ?_ ?_)
      | (with_reducible refine LeO.bind ?_ (fun _ => ?_))
      | exact ih0 _ _ _
      | exact ih1 _ _ _ _
      | exact galoislaw22_awake.mono _
      | exact galoislaw22_few.mono _ _
      | exact galoisref22_FromCycles.mono _ _ _
      | exact galoisref22_Identity.mono _ _
      | exact galoisref22_Same.mono _ _ _
      | exact perm_FromCycles.mono _ _ _
      | exact perm_Identity.mono _ _
      | exact LeO.none _
      | refine LeO.ite ?_ ?_
      | refine LeO.bind ?_ (fun _ => ?_)
theorem galoislaw22_PermCycles.mono : ∀ a0 a1 k, LeO (galoislaw22_PermCycles.f k a0 a1) (galoislaw22_PermCycles.f (k + 1) a0 a1) := by
  intro a0 a1 k
  obtain ⟨ih0, ih1⟩ := galoislaw22_PermCycles.mono_l k
  unfold galoislaw22_PermCycles.f
  repeat' first
      | (with_reducible exact ih0 _ _ _)
      | (with_reducible exact ih1 _ _ _ _)
      | (with_reducible exact galoislaw22_awake.mono _)
      | (with_reducible exact galoislaw22_few.mono _ _)
      | (with_reducible exact galoisref22_FromCycles.mono _ _ _)
      | (with_reducible exact galoisref22_Identity.mono _ _)
      | (with_reducible exact galoisref22_Same.mono _ _ _)
      | (with_reducible exact perm_FromCycles.mono _ _ _)
      | (with_reducible exact perm_Identity.mono _ _)
      | (with_reducible exact LeO.refl _)
      | (with_reducible exact LeO.none _)
      | (with_reducible refine LeO.ite ?_ ?_)
      | (with_reducible refine LeO.bind ?_ (fun _ => ?_))
      | exact ih0 _ _ _
      | exact ih1 _ _ _ _
      | exact galoislaw22_awake.mono _
      | exact galoislaw22_few.mono _ _
      | exact galoisref22_FromCycles.mono _ _ _
      | exact galoisref22_Identity.mono _ _
      | exact galoisref22_Same.mono _ _ _
      | exact perm_FromCycles.mono _ _ _
      | exact perm_Identity.mono _ _
      | exact LeO.none _
      | refine LeO.ite ?_ ?_
      | refine LeO.bind ?_ (fun _ => ?_)
set_option maxHeartbeats 8000000 in
set_option maxRecDepth 100000 in
theorem galoislaw22_PermCycles.calls (k : Nat) (a0 : Int) (A1 : Option Addr) (c1 : Nat) (l1 : List (List Int)) (r : Bool) (w : World) (hr1 : Kd.C (Kd.slice 3 (Kd.int .i64)) w A1 l1.length l1) (hc1 : l1.length ≤ c1) (h : galoislaw22_PermCycles.f k a0 l1 = some r) :
    Calls Tryd.prog 4 #[.int .i64 a0, .slice A1 l1.length c1] w fun e w' => e = .returned (.bool r) ∧ Below w.heap.size w w' := by
  have HR1 := Aside0.mk hr1
  have HC1 := Aside0.mk hc1
  clear hr1 hc1
  have HB := Aside0.mk (Below.refl w.heap.size w)
  have H : ((galoislaw22_awake.f k).bind fun t247 => (if t247 = true then (if (l1.length : Int) > 40 then (galoislaw22_PermCycles.j0 k a0 l1 true) else ((galoislaw22_few.f k l1).bind fun t248 => (galoislaw22_PermCycles.j0 k a0 l1 (!t248)))) else (galoislaw22_PermCycles.j0 k a0 l1 true))) = some r := h
  clear h
  have HC3 := Aside0.mk H
  clear H
  go_enter Tryd.func4, Tryd.ntmps4
  go_upto_region 1 with (fail)
  go_cut [22] (fun v22 wc => ∃ (kq : Nat) (x22_2 : Bool), v22 = .bool x22_2 ∧ Aside0 (galoislaw22_PermCycles.j0 kq a0 l1 x22_2 = some r) ∧ Aside0 (kq ≤ k) ∧ Aside0 (Below w.heap.size w wc))
  case first =>
    have H := HC3.out
    clear HC3
    replace H := Option.bind_eq_some_iff.mp H
    obtain ⟨t247, A40, H⟩ := H
    replace H : (if t247 = true then (if (l1.length : Int) > 40 then (galoislaw22_PermCycles.j0 k a0 l1 true) else ((galoislaw22_few.f k l1).bind fun t248 => (galoislaw22_PermCycles.j0 k a0 l1 (!t248)))) else (galoislaw22_PermCycles.j0 k a0 l1 true)) = some r := H
    have A4 := Aside0.mk A40
    clear A40
    by_cases c5 : t247 = true
    · subst c5
      have H1 : (if (l1.length : Int) > 40 then (galoislaw22_PermCycles.j0 k a0 l1 true) else ((galoislaw22_few.f k l1).bind fun t248 => (galoislaw22_PermCycles.j0 k a0 l1 (!t248)))) = some r := by rw [if_pos rfl] at H; exact H
      clear H
      have H := H1
      clear H1
      by_cases c6 : (l1.length : Int) > 40
      · rw [if_pos c6] at H
        have c6b0 : decide (40 < (l1.length : Int)) = true := decide_eq_true c6
        have c6b1 : decide (40 < l1.length) = true := decide_eq_true (by omega)
        clear c6
        (first | rw [c6b0] | (simp only [i64_w, i32_w]; rw [c6b0]) | skip)
        have H' := Aside0.mk H
        clear H
        go_wp2_with (first | ((with_reducible refine gate_callee (f := 12) rfl ?_); refine goesL_ (some 11) rfl rfl Tryd.func12 (by kernel_rfl) rfl #[] rfl (by (try simp only [List.map_toArray, List.map_cons, List.map_nil]); first | done | rfl | (simp only [List.length_drop, List.length_take]; rfl)) ?_; (with_reducible refine (galoislaw22_awake.calls k  true _ A4.out).mono ?_); rintro e w7 ⟨rfl, hb⟩; refine ⟨_, rfl, ?_⟩; have n0_ := Aside0.mk (below_step (by repeat (first | (with_reducible first | exact HB.out | apply below_alloc | apply pw_below_drewN | apply below_drew1) | exact HB.out)) hb); clear HB; have HB := n0_; clear n0_; (try clear hb); (try clear hb2); (try clear hk); (try clear hi)))
        go_meet
        case rel => exact ⟨_, (true), (by first | rfl | (simp; done) | (simp [*]; done)), H', ⟨by first | omega | exact Nat.le_refl _⟩, ⟨by repeat (first | (with_reducible first | exact HB.out | apply below_alloc | apply pw_below_drewN | apply below_drew1) | exact HB.out)⟩⟩
      · rw [if_neg c6] at H
        have c6b0 : decide (40 < (l1.length : Int)) = false := decide_eq_false c6
        have c6b1 : decide (40 < l1.length) = false := decide_eq_false (by omega)
        clear c6
        (first | rw [c6b0] | (simp only [i64_w, i32_w]; rw [c6b0]) | skip)
        replace H := Option.bind_eq_some_iff.mp H
        obtain ⟨t248, A80, H⟩ := H
        replace H : (galoislaw22_PermCycles.j0 k a0 l1 (!t248)) = some r := H
        have A8 := Aside0.mk A80
        clear A80
        have H' := Aside0.mk H
        clear H
        go_wp2_with (first | ((with_reducible refine gate_callee (f := 12) rfl ?_); refine goesL_ (some 11) rfl rfl Tryd.func12 (by kernel_rfl) rfl #[] rfl (by (try simp only [List.map_toArray, List.map_cons, List.map_nil]); first | done | rfl | (simp only [List.length_drop, List.length_take]; rfl)) ?_; (with_reducible refine (galoislaw22_awake.calls k  true _ A4.out).mono ?_); rintro e w9 ⟨rfl, hb⟩; refine ⟨_, rfl, ?_⟩; have n0_ := Aside0.mk (below_step (by repeat (first | (with_reducible first | exact HB.out | apply below_alloc | apply pw_below_drewN | apply below_drew1) | exact HB.out)) hb); clear HB; have HB := n0_; clear n0_; (try clear hb); (try clear hb2); (try clear hk); (try clear hi)) | (go_at_call 13; (with_reducible refine (galoislaw22_few.calls k _ _ l1 t248 _ ?side1 ?side2 A8.out).mono ?_); (case side1 => repeat (first | exact (Kd.C_below HR1.out HB.out) | (with_reducible refine Kd.C_alloc ?_ _) | (with_reducible refine Kd.C_drewN ?_ _) | (with_reducible refine Kd.C_drew ?_))); (case side2 => exact HC1.out); rintro e w' ⟨rfl, ⟨nd, rfl⟩⟩))
        go_meet
        case rel => exact ⟨_, (!t248), (by first | rfl | (simp; done) | (simp [*]; done)), H', ⟨by first | omega | exact Nat.le_refl _⟩, ⟨by repeat (first | (with_reducible first | exact HB.out | apply below_alloc | apply pw_below_drewN | apply below_drew1) | exact HB.out)⟩⟩
    · replace c5 := Bool.eq_false_iff.mpr c5
      subst c5
      have H1 : (galoislaw22_PermCycles.j0 k a0 l1 true) = some r := by rw [if_neg (show ¬ (false = true) by decide)] at H; exact H
      clear H
      have H := H1
      clear H1
      have H' := Aside0.mk H
      clear H
      go_wp2_with (first | ((with_reducible refine gate_callee (f := 12) rfl ?_); refine goesL_ (some 11) rfl rfl Tryd.func12 (by kernel_rfl) rfl #[] rfl (by (try simp only [List.map_toArray, List.map_cons, List.map_nil]); first | done | rfl | (simp only [List.length_drop, List.length_take]; rfl)) ?_; (with_reducible refine (galoislaw22_awake.calls k  false _ A4.out).mono ?_); rintro e w10 ⟨rfl, hb⟩; refine ⟨_, rfl, ?_⟩; have n0_ := Aside0.mk (below_step (by repeat (first | (with_reducible first | exact HB.out | apply below_alloc | apply pw_below_drewN | apply below_drew1) | exact HB.out)) hb); clear HB; have HB := n0_; clear n0_; (try clear hb); (try clear hb2); (try clear hk); (try clear hi)))
      go_meet
      case rel => exact ⟨_, (true), (by first | rfl | (simp; done) | (simp [*]; done)), H', ⟨by first | omega | exact Nat.le_refl _⟩, ⟨by repeat (first | (with_reducible first | exact HB.out | apply below_alloc | apply pw_below_drewN | apply below_drew1) | exact HB.out)⟩⟩
  case rest =>
    clear HC3
    try clear c1
    try clear p2
    try clear c4
    try clear c5
    try clear c6
    try clear c6b0
    try clear c6b1
    obtain ⟨kq, x22_2, rfl, HA, HJ2, HB⟩ := hcut
    cases kq with
    | zero => exact absurd HA.out (by simp [galoislaw22_PermCycles.j0])
    | succ kj2 =>
      have H := HA.out
      clear HA
      simp only [galoislaw22_PermCycles.j0] at H
      by_cases c11 : x22_2 = true
      · subst c11
        have H1 : ((galoislaw22_awake.f kj2).bind fun t249 => (some t249)) = some r := by rw [if_pos rfl] at H; exact H
        clear H
        have H := H1
        clear H1
        replace H := Option.bind_eq_some_iff.mp H
        obtain ⟨t249, A120, H⟩ := H
        replace H : (some t249) = some r := H
        have A12 := Aside0.mk A120
        clear A120
        obtain rfl := Option.some.inj H
        go_wp2_with (first | ((with_reducible refine gate_callee (f := 12) rfl ?_); refine goesL_ (some 23) rfl rfl Tryd.func12 (by kernel_rfl) rfl #[] rfl (by (try simp only [List.map_toArray, List.map_cons, List.map_nil]); first | done | rfl | (simp only [List.length_drop, List.length_take]; rfl)) ?_; (with_reducible refine (galoislaw22_awake.calls kj2  t249 _ A12.out).mono ?_); rintro e w13 ⟨rfl, hb⟩; refine ⟨_, rfl, ?_⟩; have n0_ := Aside0.mk (below_step (by repeat (first | (with_reducible first | exact HB.out | apply below_alloc | apply pw_below_drewN | apply below_drew1) | exact HB.out)) hb); clear HB; have HB := n0_; clear n0_; (try clear hb); (try clear hb2); (try clear hk); (try clear hi)))
        go_ret
        exact ⟨by first | rfl | (simp [errW_none, errW_some] <;> rfl) | (simp [*, errW_none, errW_some] <;> rfl), by repeat (first | (with_reducible first | exact HB.out | apply below_alloc | apply pw_below_drewN | apply below_drew1) | exact HB.out)⟩
      · replace c11 := Bool.eq_false_iff.mpr c11
        subst c11
        have H1 : ((perm_Identity.f kj2 a0).bind fun bt250 => ((perm_FromCycles.f kj2 a0 l1).bind fun bt254 => ((galoisref22_FromCycles.f kj2 a0 l1).bind fun bt258 => ((galoisref22_Degree.f a0).bind fun t262 => (if bt250.2 = t262 then (if bt254.2 = bt258.2 then ((galoisref22_Same.f kj2 bt254.1 bt258.1).bind fun t263 => (galoislaw22_PermCycles.j1 kj2 a0 bt250.1 bt250.2 (!t263))) else (galoislaw22_PermCycles.j1 kj2 a0 bt250.1 bt250.2 true)) else (galoislaw22_PermCycles.j1 kj2 a0 bt250.1 bt250.2 true)))))) = some r := by rw [if_neg (show ¬ (false = true) by decide)] at H; exact H
        clear H
        have H := H1
        clear H1
        replace H := Option.bind_eq_some_iff.mp H
        obtain ⟨⟨t250, t251⟩, A140, H⟩ := H
        replace H : ((perm_FromCycles.f kj2 a0 l1).bind fun bt254 => ((galoisref22_FromCycles.f kj2 a0 l1).bind fun bt258 => ((galoisref22_Degree.f a0).bind fun t262 => (if t251 = t262 then (if bt254.2 = bt258.2 then ((galoisref22_Same.f kj2 bt254.1 bt258.1).bind fun t263 => (galoislaw22_PermCycles.j1 kj2 a0 t250 t251 (!t263))) else (galoislaw22_PermCycles.j1 kj2 a0 t250 t251 true)) else (galoislaw22_PermCycles.j1 kj2 a0 t250 t251 true))))) = some r := H
        have A14 := Aside0.mk A140
        clear A140
        replace H := Option.bind_eq_some_iff.mp H
        obtain ⟨⟨t254, t255⟩, A150, H⟩ := H
        replace H : ((galoisref22_FromCycles.f kj2 a0 l1).bind fun bt258 => ((galoisref22_Degree.f a0).bind fun t262 => (if t251 = t262 then (if t255 = bt258.2 then ((galoisref22_Same.f kj2 t254 bt258.1).bind fun t263 => (galoislaw22_PermCycles.j1 kj2 a0 t250 t251 (!t263))) else (galoislaw22_PermCycles.j1 kj2 a0 t250 t251 true)) else (galoislaw22_PermCycles.j1 kj2 a0 t250 t251 true)))) = some r := H
        have A15 := Aside0.mk A150
        clear A150
        replace H := Option.bind_eq_some_iff.mp H
        obtain ⟨⟨t258, t259⟩, A160, H⟩ := H
        replace H : ((galoisref22_Degree.f a0).bind fun t262 => (if t251 = t262 then (if t255 = t259 then ((galoisref22_Same.f kj2 t254 t258).bind fun t263 => (galoislaw22_PermCycles.j1 kj2 a0 t250 t251 (!t263))) else (galoislaw22_PermCycles.j1 kj2 a0 t250 t251 true)) else (galoislaw22_PermCycles.j1 kj2 a0 t250 t251 true))) = some r := H
        have A16 := Aside0.mk A160
        clear A160
        have HC17 := Aside0.mk H
        clear H
        go_upto_region 6 with (first | ((with_reducible refine gate_callee (f := 18) rfl ?_); refine goesL_ (some 26) rfl rfl Tryd.func18 (by kernel_rfl) rfl #[.int .i64 a0] rfl (by (try simp only [List.map_toArray, List.map_cons, List.map_nil]); first | done | rfl | (simp only [List.length_drop, List.length_take]; rfl)) ?_; (with_reducible refine (perm_Identity.calls kj2 a0 t250 t251 _ A14.out).mono ?_); rintro e w18 ⟨v252, rfl, ho0, hb⟩; refine ⟨_, rfl, ?_⟩; have n0_ := Aside0.mk (Kd.R_lower ho0 (below_size (by repeat (first | (with_reducible first | exact HB.out | apply below_alloc | apply pw_below_drewN | apply below_drew1) | exact HB.out)))); have n1_ := Aside0.mk (below_step (by repeat (first | (with_reducible first | exact HB.out | apply below_alloc | apply pw_below_drewN | apply below_drew1) | exact HB.out)) hb); clear HB; have HO253 := n0_; have HB := n1_; clear n0_ n1_; (try clear hb); (try clear hb2); (try clear hk); (try clear hi); (try clear ho0)) | ((with_reducible refine gate_callee (f := 20) rfl ?_); refine goesL_ (some 32) rfl rfl Tryd.func20 (by kernel_rfl) rfl #[.int .i64 a0, .slice A1 l1.length c1] rfl (by (try simp only [List.map_toArray, List.map_cons, List.map_nil]); first | done | rfl | (simp only [List.length_drop, List.length_take]; rfl)) ?_; (with_reducible refine (perm_FromCycles.calls kj2 a0 _ _ l1 t254 t255 _ ?side1 ?side2 A15.out).mono ?_); (case side1 => repeat (first | exact (Kd.C_below HR1.out HB.out) | (with_reducible refine Kd.C_alloc ?_ _) | (with_reducible refine Kd.C_drewN ?_ _) | (with_reducible refine Kd.C_drew ?_))); (case side2 => exact HC1.out); rintro e w19 ⟨v256, rfl, ho0, hb⟩; refine ⟨_, rfl, ?_⟩; have n0_ := Aside0.mk (Kd.R_elder' (by (with_reducible repeat (first | apply Kd.R_alloc | apply Kd.R_drewN | apply Kd.R_drew)); exact HO253.out) (Kd.R_base ho0) hb); have n1_ := Aside0.mk (Kd.R_lower (Kd.R_new' ho0 (Kd.R_lt (by (with_reducible repeat (first | apply Kd.R_alloc | apply Kd.R_drewN | apply Kd.R_drew)); exact HO253.out))) (below_size (by repeat (first | (with_reducible first | exact HB.out | apply below_alloc | apply pw_below_drewN | apply below_drew1) | exact HB.out)))); have n2_ := Aside0.mk (below_step (by repeat (first | (with_reducible first | exact HB.out | apply below_alloc | apply pw_below_drewN | apply below_drew1) | exact HB.out)) hb); clear HO253; clear HB; have HO253 := n0_; have HO257 := n1_; have HB := n2_; clear n0_ n1_ n2_; (try clear hb); (try clear hb2); (try clear hk); (try clear hi); (try clear ho0)) | ((with_reducible refine gate_callee (f := 21) rfl ?_); refine goesL_ (some 38) rfl rfl Tryd.func21 (by kernel_rfl) rfl #[.int .i64 a0, .slice A1 l1.length c1] rfl (by (try simp only [List.map_toArray, List.map_cons, List.map_nil]); first | done | rfl | (simp only [List.length_drop, List.length_take]; rfl)) ?_; (with_reducible refine (galoisref22_FromCycles.calls kj2 a0 _ _ l1 t258 t259 _ ?side1 ?side2 A16.out).mono ?_); (case side1 => repeat (first | exact (Kd.C_below HR1.out HB.out) | (with_reducible refine Kd.C_alloc ?_ _) | (with_reducible refine Kd.C_drewN ?_ _) | (with_reducible refine Kd.C_drew ?_))); (case side2 => exact HC1.out); rintro e w20 ⟨v260, rfl, ho0, hb⟩; refine ⟨_, rfl, ?_⟩; have n0_ := Aside0.mk (Kd.R_elder' (by (with_reducible repeat (first | apply Kd.R_alloc | apply Kd.R_drewN | apply Kd.R_drew)); exact HO253.out) (Kd.R_base ho0) hb); have n1_ := Aside0.mk (Kd.R_elder' (by (with_reducible repeat (first | apply Kd.R_alloc | apply Kd.R_drewN | apply Kd.R_drew)); exact HO257.out) (Kd.R_base ho0) hb); have n2_ := Aside0.mk (Kd.R_lower (Kd.R_new' (Kd.R_new' ho0 (Kd.R_lt (by (with_reducible repeat (first | apply Kd.R_alloc | apply Kd.R_drewN | apply Kd.R_drew)); exact HO253.out))) (Kd.R_lt (by (with_reducible repeat (first | apply Kd.R_alloc | apply Kd.R_drewN | apply Kd.R_drew)); exact HO257.out))) (below_size (by repeat (first | (with_reducible first | exact HB.out | apply below_alloc | apply pw_below_drewN | apply below_drew1) | exact HB.out)))); have n3_ := Aside0.mk (below_step (by repeat (first | (with_reducible first | exact HB.out | apply below_alloc | apply pw_below_drewN | apply below_drew1) | exact HB.out)) hb); clear HO253; clear HO257; clear HB; have HO253 := n0_; have HO257 := n1_; have HO261 := n2_; have HB := n3_; clear n0_ n1_ n2_ n3_; (try clear hb); (try clear hb2); (try clear hk); (try clear hi); (try clear ho0)))
        (try simp only [Act.put, List.setIfInBounds_toArray, List.set_cons_zero, List.set_cons_succ])
        go_cut [55] (fun v55 wc => ∃ (kq : Nat) (x55_16 : Bool), v55 = .bool x55_16 ∧ Aside0 (galoislaw22_PermCycles.j1 kq a0 t250 t251 x55_16 = some r) ∧ Aside0 (kq ≤ kj2) ∧ Aside0 (Kd.R (Kd.int .i64) 3 wc w.heap.size (fun _ => True) v252 t250) ∧ Aside0 (Below w.heap.size w wc))
        case first =>
          have H := HC17.out
          clear HC17
          replace H := Option.bind_eq_some_iff.mp H
          obtain ⟨t262, A210, H⟩ := H
          replace H : (if t251 = t262 then (if t255 = t259 then ((galoisref22_Same.f kj2 t254 t258).bind fun t263 => (galoislaw22_PermCycles.j1 kj2 a0 t250 t251 (!t263))) else (galoislaw22_PermCycles.j1 kj2 a0 t250 t251 true)) else (galoislaw22_PermCycles.j1 kj2 a0 t250 t251 true)) = some r := H
          have A21 := Aside0.mk A210
          clear A210
          by_cases c22 : t251 = t262
          · rw [if_pos c22] at H
            have c22b0 : (t251 == t262) = true := beq_iff_eq.mpr c22
            have c22b1 : (t251 != t262) = false := bne_eq_false_iff_eq.mpr c22
            clear c22
            (first | rw [c22b0] | (simp only [i64_w, i32_w]; rw [c22b0]) | skip)
            by_cases c23 : t255 = t259
            · rw [if_pos c23] at H
              have c23b0 : (t255 == t259) = true := beq_iff_eq.mpr c23
              have c23b1 : (t255 != t259) = false := bne_eq_false_iff_eq.mpr c23
              clear c23
              replace H := Option.bind_eq_some_iff.mp H
              obtain ⟨t263, A240, H⟩ := H
              replace H : (galoislaw22_PermCycles.j1 kj2 a0 t250 t251 (!t263)) = some r := H
              have A24 := Aside0.mk A240
              clear A240
              have H' := Aside0.mk H
              clear H
              go_wp2_with (first | ((with_reducible refine gate_callee (f := 22) rfl ?_); refine goesL_ (some 43) rfl rfl Tryd.func22 (by kernel_rfl) rfl #[.int .i64 a0] rfl (by (try simp only [List.map_toArray, List.map_cons, List.map_nil]); first | done | rfl | (simp only [List.length_drop, List.length_take]; rfl)) ?_; (with_reducible refine (galoisref22_Degree.calls a0 t262 _ A21.out).mono ?_); rintro e w' ⟨rfl, ⟨nd, rfl⟩⟩; refine ⟨_, rfl, ?_⟩; obtain ⟨Ao25, co25, eo25⟩ := Kd.R_slice HO257.out; subst eo25; obtain ⟨Ao26, co26, eo26⟩ := Kd.R_slice HO261.out; subst eo26) | (go_at_call 19; (with_reducible refine (galoisref22_Same.calls kj2 _ _ t254 _ _ t258 t263 _ ?side1 ?side2 ?side3 ?side4 A24.out).mono ?_); (case side1 => repeat (first | exact (Kd.R_reads' HO257.out).2.2 | (with_reducible refine Kd.C_alloc ?_ _) | (with_reducible refine Kd.C_drewN ?_ _) | (with_reducible refine Kd.C_drew ?_))); (case side2 => exact (Kd.R_reads' HO257.out).2.1); (case side3 => repeat (first | exact (Kd.R_reads' HO261.out).2.2 | (with_reducible refine Kd.C_alloc ?_ _) | (with_reducible refine Kd.C_drewN ?_ _) | (with_reducible refine Kd.C_drew ?_))); (case side4 => exact (Kd.R_reads' HO261.out).2.1); rintro e w' ⟨rfl, ⟨nd, rfl⟩⟩))
              go_meet
              case rel => exact ⟨_, (!t263), (by first | rfl | (simp; done) | (simp [*]; done)), H', ⟨by have := HJ2.out; first | omega | exact Nat.le_refl _⟩, ⟨by (with_reducible repeat (first | apply Kd.R_alloc | apply Kd.R_drewN | apply Kd.R_drew)); exact Kd.R_mono HO253.out (fun _ hk => trivial)⟩, ⟨by repeat (first | (with_reducible first | exact HB.out | apply below_alloc | apply pw_below_drewN | apply below_drew1) | exact HB.out)⟩⟩
            · rw [if_neg c23] at H
              have c23b0 : (t255 == t259) = false := beq_eq_false_iff_ne.mpr c23
              have c23b1 : (t255 != t259) = true := bne_iff_ne.mpr c23
              have H' := Aside0.mk H
              clear H
              go_wp2_with (first | ((with_reducible refine gate_callee (f := 22) rfl ?_); refine goesL_ (some 43) rfl rfl Tryd.func22 (by kernel_rfl) rfl #[.int .i64 a0] rfl (by (try simp only [List.map_toArray, List.map_cons, List.map_nil]); first | done | rfl | (simp only [List.length_drop, List.length_take]; rfl)) ?_; (with_reducible refine (galoisref22_Degree.calls a0 t262 _ A21.out).mono ?_); rintro e w' ⟨rfl, ⟨nd, rfl⟩⟩; refine ⟨_, rfl, ?_⟩))
              go_meet
              case rel => exact ⟨_, (true), (by first | rfl | (simp; done) | (simp [*]; done)), H', ⟨by have := HJ2.out; first | omega | exact Nat.le_refl _⟩, ⟨by (with_reducible repeat (first | apply Kd.R_alloc | apply Kd.R_drewN | apply Kd.R_drew)); exact Kd.R_mono HO253.out (fun _ hk => trivial)⟩, ⟨by repeat (first | (with_reducible first | exact HB.out | apply below_alloc | apply pw_below_drewN | apply below_drew1) | exact HB.out)⟩⟩
          · rw [if_neg c22] at H
            have c22b0 : (t251 == t262) = false := beq_eq_false_iff_ne.mpr c22
            have c22b1 : (t251 != t262) = true := bne_iff_ne.mpr c22
            (first | rw [c22b0] | (simp only [i64_w, i32_w]; rw [c22b0]) | skip)
            have H' := Aside0.mk H
            clear H
            go_wp2_with (first | ((with_reducible refine gate_callee (f := 22) rfl ?_); refine goesL_ (some 43) rfl rfl Tryd.func22 (by kernel_rfl) rfl #[.int .i64 a0] rfl (by (try simp only [List.map_toArray, List.map_cons, List.map_nil]); first | done | rfl | (simp only [List.length_drop, List.length_take]; rfl)) ?_; (with_reducible refine (galoisref22_Degree.calls a0 t262 _ A21.out).mono ?_); rintro e w' ⟨rfl, ⟨nd, rfl⟩⟩; refine ⟨_, rfl, ?_⟩))
            go_meet
            case rel => exact ⟨_, (true), (by first | rfl | (simp; done) | (simp [*]; done)), H', ⟨by have := HJ2.out; first | omega | exact Nat.le_refl _⟩, ⟨by (with_reducible repeat (first | apply Kd.R_alloc | apply Kd.R_drewN | apply Kd.R_drew)); exact Kd.R_mono HO253.out (fun _ hk => trivial)⟩, ⟨by repeat (first | (with_reducible first | exact HB.out | apply below_alloc | apply pw_below_drewN | apply below_drew1) | exact HB.out)⟩⟩
        case rest =>
          clear HC17
          try clear c1
          try clear c2
          try clear p2
          try clear c4
          try clear c5
          try clear c6
          try clear c6b0
          try clear c6b1
          try clear c11
          try clear c12
          try clear c18
          try clear c20
          try clear c21
          try clear c22
          try clear c22b0
          try clear c22b1
          try clear c23
          try clear c23b0
          try clear c23b1
          try clear p2
          obtain ⟨kq, x55_16, rfl, HA, HJ16, HO_5, HB⟩ := hcut
          cases kq with
          | zero => exact absurd HA.out (by simp [galoislaw22_PermCycles.j1])
          | succ kj16 =>
            have H := HA.out
            clear HA
            simp only [galoislaw22_PermCycles.j1] at H
            by_cases c27 : x55_16 = true
            · subst c27
              have H1 : (some false) = some r := by rw [if_pos rfl] at H; exact H
              clear H
              have H := H1
              clear H1
              obtain rfl := Option.some.inj H
              go_wp2
              go_ret
              exact ⟨by first | rfl | (simp [errW_none, errW_some] <;> rfl) | (simp [*, errW_none, errW_some] <;> rfl), by repeat (first | (with_reducible first | exact HB.out | apply below_alloc | apply pw_below_drewN | apply below_drew1) | exact HB.out)⟩
            · replace c27 := Bool.eq_false_iff.mpr c27
              subst c27
              have H1 : (if t251 = 0 then ((galoisref22_Identity.f kj16 a0).bind fun t264 => ((galoisref22_Same.f kj16 t250 t264).bind fun t267 => (some t267))) else (if (t250.length : Int) = 0 then (some true) else (some false))) = some r := by rw [if_neg (show ¬ (false = true) by decide)] at H; exact H
              clear H
              have H := H1
              clear H1
              by_cases c28 : t251 = 0
              · rw [if_pos c28] at H
                have c28b0 : (t251 == 0) = true := beq_iff_eq.mpr c28
                have c28b1 : (t251 != 0) = false := bne_eq_false_iff_eq.mpr c28
                clear c28
                replace H := Option.bind_eq_some_iff.mp H
                obtain ⟨t264, A290, H⟩ := H
                replace H : ((galoisref22_Same.f kj16 t250 t264).bind fun t267 => (some t267)) = some r := H
                have A29 := Aside0.mk A290
                clear A290
                replace H := Option.bind_eq_some_iff.mp H
                obtain ⟨t267, A300, H⟩ := H
                replace H : (some t267) = some r := H
                have A30 := Aside0.mk A300
                clear A300
                obtain rfl := Option.some.inj H
                go_wp2_with (first | (go_at_call 23; (with_reducible refine (galoisref22_Identity.calls kj16 a0 t264 _ A29.out).mono ?_); rintro e w31 ⟨v265, rfl, ho0, hb⟩; have n0_ := Aside0.mk (Kd.R_elder' (by (with_reducible repeat (first | apply Kd.R_alloc | apply Kd.R_drewN | apply Kd.R_drew)); exact HO_5.out) (Kd.R_base ho0) hb); have n1_ := Aside0.mk (Kd.R_lower (Kd.R_new' ho0 (Kd.R_lt (by (with_reducible repeat (first | apply Kd.R_alloc | apply Kd.R_drewN | apply Kd.R_drew)); exact HO_5.out))) (below_size (by repeat (first | (with_reducible first | exact HB.out | apply below_alloc | apply pw_below_drewN | apply below_drew1) | exact HB.out)))); have n2_ := Aside0.mk (below_step (by repeat (first | (with_reducible first | exact HB.out | apply below_alloc | apply pw_below_drewN | apply below_drew1) | exact HB.out)) hb); clear HO_5; clear HB; have HO_5 := n0_; have HO266 := n1_; have HB := n2_; clear n0_ n1_ n2_; (try clear hb); (try clear hb2); (try clear hk); (try clear hi); (try clear ho0); obtain ⟨Ao32, co32, eo32⟩ := Kd.R_slice HO_5.out; subst eo32; obtain ⟨Ao33, co33, eo33⟩ := Kd.R_slice HO266.out; subst eo33) | (go_at_call 19; (with_reducible refine (galoisref22_Same.calls kj16 _ _ t250 _ _ t264 t267 _ ?side1 ?side2 ?side3 ?side4 A30.out).mono ?_); (case side1 => repeat (first | exact (Kd.R_reads' HO_5.out).2.2 | (with_reducible refine Kd.C_alloc ?_ _) | (with_reducible refine Kd.C_drewN ?_ _) | (with_reducible refine Kd.C_drew ?_))); (case side2 => exact (Kd.R_reads' HO_5.out).2.1); (case side3 => repeat (first | exact (Kd.R_reads' HO266.out).2.2 | (with_reducible refine Kd.C_alloc ?_ _) | (with_reducible refine Kd.C_drewN ?_ _) | (with_reducible refine Kd.C_drew ?_))); (case side4 => exact (Kd.R_reads' HO266.out).2.1); rintro e w' ⟨rfl, ⟨nd, rfl⟩⟩))
                go_ret
                exact ⟨by first | rfl | (simp [errW_none, errW_some] <;> rfl) | (simp [*, errW_none, errW_some] <;> rfl), by repeat (first | (with_reducible first | exact HB.out | apply below_alloc | apply pw_below_drewN | apply below_drew1) | exact HB.out)⟩
              · rw [if_neg c28] at H
                have c28b0 : (t251 == 0) = false := beq_eq_false_iff_ne.mpr c28
                have c28b1 : (t251 != 0) = true := bne_iff_ne.mpr c28
                by_cases c34 : (t250.length : Int) = 0
                · rw [if_pos c34] at H
                  have c34b0 : ((t250.length : Int) == 0) = true := beq_iff_eq.mpr c34
                  have c34b1 : ((t250.length : Int) != 0) = false := bne_eq_false_iff_eq.mpr c34
                  clear c34
                  obtain rfl := Option.some.inj H
                  obtain ⟨Ao35, co35, eo35⟩ := Kd.R_slice HO_5.out
                  subst eo35
                  go_wp2
                  go_ret
                  exact ⟨by first | rfl | (simp [errW_none, errW_some] <;> rfl) | (simp [*, errW_none, errW_some] <;> rfl), by repeat (first | (with_reducible first | exact HB.out | apply below_alloc | apply pw_below_drewN | apply below_drew1) | exact HB.out)⟩
                · rw [if_neg c34] at H
                  have c34b0 : ((t250.length : Int) == 0) = false := beq_eq_false_iff_ne.mpr c34
                  have c34b1 : ((t250.length : Int) != 0) = true := bne_iff_ne.mpr c34
                  have c34b2 : ¬ (t250 = []) := fun h_ => c34 (by rw [h_]; rfl)
                  obtain rfl := Option.some.inj H
                  obtain ⟨Ao36, co36, eo36⟩ := Kd.R_slice HO_5.out
                  subst eo36
                  go_wp2
                  go_ret
                  exact ⟨by first | rfl | (simp [errW_none, errW_some] <;> rfl) | (simp [*, errW_none, errW_some] <;> rfl), by repeat (first | (with_reducible first | exact HB.out | apply below_alloc | apply pw_below_drewN | apply below_drew1) | exact HB.out)⟩

/-- THE ONE PURE STATEMENT of galoislaw22_PermCycles: yours. -/
def galoislaw22_PermCycles.Pure : Prop := ∀ (a0 : Int) (l1 : List (List Int)), (Lit.int .i64 a0).wf = true → l1.length ≤ maxLen → (∀ x ∈ l1, (x.length ≤ maxLen ∧ ∀ y0 ∈ x, (Lit.int .i64 y0).wf = true)) → ∃ k, galoislaw22_PermCycles.f k a0 l1 = some true
theorem galoislaw22_PermCycles.walk (P : galoislaw22_PermCycles.Pure) (a0 : Int) (A1 : Option Addr) (c1 : Nat) (l1 : List (List Int)) (w : World) (w0 : (Lit.int .i64 a0).wf = true) (hr1 : Kd.C (Kd.slice 3 (Kd.int .i64)) w A1 l1.length l1) (hc1 : l1.length ≤ c1) (hm1 : l1.length ≤ maxLen) (hw1 : ∀ x ∈ l1, (x.length ≤ maxLen ∧ ∀ y0 ∈ x, (Lit.int .i64 y0).wf = true)) :
    Calls Tryd.prog 4 #[.int .i64 a0, .slice A1 l1.length c1] w fun e w' => e = .returned (.bool true) ∧ Below w.heap.size w w' := by
  obtain ⟨k, h⟩ := P a0 l1 w0 hm1 hw1
  refine (galoislaw22_PermCycles.calls k a0 _ _ l1 true w hr1 hc1 h).mono ?_
  rintro e w' ⟨rfl, hd⟩
  exact ⟨rfl, hd⟩

end Go.Proofs.YtoaalfpfklchfaaDoor.PPermCycles
