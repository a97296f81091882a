-- Printed by wip/tools/mk.py of this repo (the kit's print with turns made in memory).
import Derived.Test.YtoaalfpfklchfaaDoorZPermBackPx0
import Derived.Test.YtoaalfpfklchfaaDoorZPermBackPx2
import Derived.Test.YtoaalfpfklchfaaDoorZPermBackPx3
import Derived.Test.YtoaalfpfklchfaaDoorZPermBackPx4
import Derived.Test.YtoaalfpfklchfaaDoorZPermBackPx5
import Derived.Test.YtoaalfpfklchfaaDoorZPermBackPx6
import Derived.Test.YtoaalfpfklchfaaDoorZPermBackPx8
namespace Go.Proofs.YtoaalfpfklchfaaDoor.PPermBack
open Go.RowKit Go.Proofs.YtoaalfpfklchfaaDoorW.PrintWords Go.Proofs.YtoaalfpfklchfaaDoorW.PrintLast Go.Proofs.YtoaalfpfklchfaaDoorW.PrintMore
attribute [local go_sem] max2_int min2_int max_two min_two max_three min_three max_four min_four   -- for this text's walks alone
set_option linter.unusedVariables false
set_option linter.unusedSimpArgs false

/-! ### galoislaw22_PermBack: function 11 -/
mutual
def galoislaw22_PermBack.j0 : Nat → List Int → List Int → Bool → Option (Bool)
  | 0, _, _, _ => none
  | k + 1, x0, x1, x23 => if x23 = true then ((galoislaw22_awake.f k).bind fun t303 => (some t303)) else ((perm_Cycles.f k x0).bind fun bt304 => ((perm_Rank.f k x0).bind fun bt308 => ((perm_Format.f k x0).bind fun bt310 => (if bt304.2 = 0 then (if bt308.2 = 0 then (galoislaw22_PermBack.j1 k x0 x1 bt304.1 bt308.1 bt310.1 (bt310.2 != 0)) else (galoislaw22_PermBack.j1 k x0 x1 bt304.1 bt308.1 bt310.1 true)) else (galoislaw22_PermBack.j1 k x0 x1 bt304.1 bt308.1 bt310.1 true)))))
def galoislaw22_PermBack.j1 : Nat → List Int → List Int → List (List Int) → Int → ByteArray → Bool → Option (Bool)
  | 0, _, _, _, _, _, _ => none
  | k + 1, x0, x1, x5, x7, x9, x49 => if x49 = true then (some false) else ((perm_FromCycles.f k (x0.length : Int) x5).bind fun bt312 => ((perm_Unrank.f k (x0.length : Int) x7).bind fun bt316 => ((perm_Parse.f k (x0.length : Int) x9).bind fun bt320 => (if bt312.2 = 0 then (if bt316.2 = 0 then (if bt320.2 = 0 then ((galoisref22_Same.f k bt312.1 x0).bind fun t324 => (if t324 = true then ((galoisref22_Same.f k bt316.1 x0).bind fun t325 => (if t325 = true then ((galoisref22_Same.f k bt320.1 x0).bind fun t326 => (galoislaw22_PermBack.j2 k x0 x1 x7 (!t326))) else (galoislaw22_PermBack.j2 k x0 x1 x7 true))) else (galoislaw22_PermBack.j2 k x0 x1 x7 true))) else (galoislaw22_PermBack.j2 k x0 x1 x7 true)) else (galoislaw22_PermBack.j2 k x0 x1 x7 true)) else (galoislaw22_PermBack.j2 k x0 x1 x7 true)))))
def galoislaw22_PermBack.j2 : Nat → List Int → List Int → Int → Bool → Option (Bool)
  | 0, _, _, _, _ => none
  | k + 1, x0, x1, x7, x98 => if x98 = true then (some false) else ((perm_Rank.f k x1).bind fun bt327 => ((perm_Compare.f k x0 x1).bind fun bt329 => (if bt327.2 = 0 then (if bt329.2 = 0 then (if ((decide (bt329.1 < 0)) == (decide (x7 < bt327.1))) = true then (if ((bt329.1 == 0) == (x7 == bt327.1)) = true then ((galoisref22_Same.f k x0 x1).bind fun t331 => (some ((bt329.1 == 0) == t331))) else (some false)) else (some false)) else (some false)) else (some false))))
end
def galoislaw22_PermBack.f (k : Nat) (l0 : List Int) (l1 : List Int) : Option (Bool) := (galoislaw22_awake.f k).bind fun t301 => (if t301 = true then ((galoislaw22_right.f k l0 l1).bind fun t302 => (galoislaw22_PermBack.j0 k l0 l1 (!t302))) else (galoislaw22_PermBack.j0 k l0 l1 true))
theorem galoislaw22_PermBack.mono_l : ∀ k, (∀ y0 y1 y2, LeO (galoislaw22_PermBack.j0 k y0 y1 y2) (galoislaw22_PermBack.j0 (k + 1) y0 y1 y2)) ∧ (∀ y0 y1 y2 y3 y4 y5, LeO (galoislaw22_PermBack.j1 k y0 y1 y2 y3 y4 y5) (galoislaw22_PermBack.j1 (k + 1) y0 y1 y2 y3 y4 y5)) ∧ (∀ y0 y1 y2 y3, LeO (galoislaw22_PermBack.j2 k y0 y1 y2 y3) (galoislaw22_PermBack.j2 (k + 1) y0 y1 y2 y3))
  | 0 => ⟨fun _ _ _ r h => by simp [galoislaw22_PermBack.j0] at h, fun _ _ _ _ _ _ r h => by simp [galoislaw22_PermBack.j1] at h, fun _ _ _ _ r h => by simp [galoislaw22_PermBack.j2] at h⟩
  | k + 1 => by
    obtain ⟨ih0, ih1, ih2⟩ := galoislaw22_PermBack.mono_l k
    refine ⟨?_, ?_, ?_⟩
    · intro y0 y1 y2
      unfold galoislaw22_PermBack.j0
      repeat' first
      | (with_reducible exact ih0 _ _ _)
      | (with_reducible exact ih1 _ _ _ _ _ _)
      | (with_reducible exact ih2 _ _ _ _)
      | (with_reducible exact galoislaw22_awake.mono _)
      | (with_reducible exact galoislaw22_right.mono _ _ _)
      | (with_reducible exact galoisref22_Same.mono _ _ _)
      | (with_reducible exact perm_Compare.mono _ _ _)
      | (with_reducible exact perm_Cycles.mono _ _)
      | (with_reducible exact perm_Format.mono _ _)
      | (with_reducible exact perm_FromCycles.mono _ _ _)
      | (with_reducible exact perm_Parse.mono _ _ _)
      | (with_reducible exact perm_Rank.mono _ _)
      | (with_reducible exact perm_Unrank.mono _ _ _)
      | (with_reducible exact LeO.refl _)
      | (with_reducible exact LeO.none _)
      | (with_reducible refine LeO.ite ?_ ?_)
      | (with_reducible refine LeO.bind ?_ (fun _ => ?_))
      | exact ih0 _ _ _
      | exact ih1 _ _ _ _ _ _
      | exact ih2 _ _ _ _
      | exact galoislaw22_awake.mono _
      | exact galoislaw22_right.mono _ _ _
      | exact galoisref22_Same.mono _ _ _
      | exact perm_Compare.mono _ _ _
      | exact perm_Cycles.mono _ _
      | exact perm_Format.mono _ _
      | exact perm_FromCycles.mono _ _ _
      | exact perm_Parse.mono _ _ _
      | exact perm_Rank.mono _ _
      | exact perm_Unrank.mono _ _ _
      | exact LeO.none _
      | refine LeO.ite ?_ ?_
      | refine LeO.bind ?_ (fun _ => ?_)
    · intro y0 y1 y2 y3 y4 y5
      unfold galoislaw22_PermBack.j1
      repeat' first
      | (with_reducible exact ih0 _ _ _)
      | (with_reducible exact ih1 _ _ _ _ _ _)
      | (with_reducible exact ih2 _ _ _ _)
      | (with_reducible exact galoislaw22_awake.mono _)
      | (with_reducible exact galoislaw22_right.mono _ _ _)
      | (with_reducible exact galoisref22_Same.mono _ _ _)
      | (with_reducible exact perm_Compare.mono _ _ _)
      | (with_reducible exact perm_Cycles.mono _ _)
      | (with_reducible exact perm_Format.mono _ _)
      | (with_reducible exact perm_FromCycles.mono _ _ _)
      | (with_reducible exact perm_Parse.mono _ _ _)
      | (with_reducible exact perm_Rank.mono _ _)
      | (with_reducible exact perm_Unrank.mono _ _ _)
      | (with_reducible exact LeO.refl _)
      | (with_reducible exact LeO.none _)
      | (with_reducible refine LeO.ite ?_ ?_)
      | (with_reducible refine LeO.bind ?_ (fun _ => ?_))
      | exact ih0 _ _ _
      | exact ih1 _ _ _ _ _ _
      | exact ih2 _ _ _ _
      | exact galoislaw22_awake.mono _
      | exact galoislaw22_right.mono _ _ _
      | exact galoisref22_Same.mono _ _ _
      | exact perm_Compare.mono _ _ _
      | exact perm_Cycles.mono _ _
      | exact perm_Format.mono _ _
      | exact perm_FromCycles.mono _ _ _
      | exact perm_Parse.mono _ _ _
      | exact perm_Rank.mono _ _
      | exact perm_Unrank.mono _ _ _
      | exact LeO.none _
      | refine LeO.ite ?_ ?_
      | refine LeO.bind ?_ (fun _ => ?_)
    · intro y0 y1 y2 y3
      unfold galoislaw22_PermBack.j2
      repeat' first
      | (with_reducible exact ih0 _ _ _)
      | (with_reducible exact ih1 _ _ _ _ _ _)
      | (with_reducible exact ih2 _ _ _ _)
      | (with_reducible exact galoislaw22_awake.mono _)
      | (with_reducible exact galoislaw22_right.mono _ _ _)
      | (with_reducible exact galoisref22_Same.mono _ _ _)
      | (with_reducible exact perm_Compare.mono _ _ _)
      | (with_reducible exact perm_Cycles.mono _ _)
      | (with_reducible exact perm_Format.mono _ _)
      | (with_reducible exact perm_FromCycles.mono _ _ _)
      | (with_reducible exact perm_Parse.mono _ _ _)
      | (with_reducible exact perm_Rank.mono _ _)
      | (with_reducible exact perm_Unrank.mono _ _ _)
      | (with_reducible exact LeO.refl _)
      | (with_reducible exact LeO.none _)
      | (with_reducible refine LeO.ite ?_ ?_)
      | (with_reducible refine LeO.bind ?_ (fun _ => ?_))
      | exact ih0 _ _ _
      | exact ih1 _ _ _ _ _ _
      | exact ih2 _ _ _ _
      | exact galoislaw22_awake.mono _
      | exact galoislaw22_right.mono _ _ _
      | exact galoisref22_Same.mono _ _ _
      | exact perm_Compare.mono _ _ _
      | exact perm_Cycles.mono _ _
      | exact perm_Format.mono _ _
      | exact perm_FromCycles.mono _ _ _
      | exact perm_Parse.mono _ _ _
      | exact perm_Rank.mono _ _
      | exact perm_Unrank.mono _ _ _
      | exact LeO.none _
      | refine LeO.ite ?_ ?_
      | refine LeO.bind ?_ (fun _ => ?_)
theorem galoislaw22_PermBack.mono : ∀ a0 a1 k, LeO (galoislaw22_PermBack.f k a0 a1) (galoislaw22_PermBack.f (k + 1) a0 a1) := by
  intro a0 a1 k
  obtain ⟨ih0, ih1, ih2⟩ := galoislaw22_PermBack.mono_l k
  unfold galoislaw22_PermBack.f
  repeat' first
      | (with_reducible exact ih0 _ _ _)
      | (with_reducible exact ih1 _ _ _ _ _ _)
      | (with_reducible exact ih2 _ _ _ _)
      | (with_reducible exact galoislaw22_awake.mono _)
      | (with_reducible exact galoislaw22_right.mono _ _ _)
      | (with_reducible exact galoisref22_Same.mono _ _ _)
      | (with_reducible exact perm_Compare.mono _ _ _)
      | (with_reducible exact perm_Cycles.mono _ _)
      | (with_reducible exact perm_Format.mono _ _)
      | (with_reducible exact perm_FromCycles.mono _ _ _)
      | (with_reducible exact perm_Parse.mono _ _ _)
      | (with_reducible exact perm_Rank.mono _ _)
      | (with_reducible exact perm_Unrank.mono _ _ _)
      | (with_reducible exact LeO.refl _)
      | (with_reducible exact LeO.none _)
      | (with_reducible refine LeO.ite ?_ ?_)
      | (with_reducible refine LeO.bind ?_ (fun _ => ?_))
      | exact ih0 _ _ _
      | exact ih1 _ _ _ _ _ _
      | exact ih2 _ _ _ _
      | exact galoislaw22_awake.mono _
      | exact galoislaw22_right.mono _ _ _
      | exact galoisref22_Same.mono _ _ _
      | exact perm_Compare.mono _ _ _
      | exact perm_Cycles.mono _ _
      | exact perm_Format.mono _ _
      | exact perm_FromCycles.mono _ _ _
      | exact perm_Parse.mono _ _ _
      | exact perm_Rank.mono _ _
      | exact perm_Unrank.mono _ _ _
      | exact LeO.none _
      | refine LeO.ite ?_ ?_
      | refine LeO.bind ?_ (fun _ => ?_)
set_option maxHeartbeats 8000000 in
set_option maxRecDepth 100000 in
theorem galoislaw22_PermBack.calls (k : Nat) (A0 : Option Addr) (c0 : Nat) (l0 : List Int) (A1 : Option Addr) (c1 : Nat) (l1 : List Int) (r : Bool) (w : World) (hr0 : Kd.C (Kd.int .i64) w A0 l0.length l0) (hc0 : l0.length ≤ c0) (hr1 : Kd.C (Kd.int .i64) w A1 l1.length l1) (hc1 : l1.length ≤ c1) (h : galoislaw22_PermBack.f k l0 l1 = some r) :
    Calls Tryd.prog 11 #[.slice A0 l0.length c0, .slice A1 l1.length c1] w fun e w' => e = .returned (.bool r) ∧ Below w.heap.size w w' := by
  have HR0 := Aside0.mk hr0
  have HC0 := Aside0.mk hc0
  clear hr0 hc0
  have HR1 := Aside0.mk hr1
  have HC1 := Aside0.mk hc1
  clear hr1 hc1
  have HB := Aside0.mk (Below.refl w.heap.size w)
  have H : ((galoislaw22_awake.f k).bind fun t301 => (if t301 = true then ((galoislaw22_right.f k l0 l1).bind fun t302 => (galoislaw22_PermBack.j0 k l0 l1 (!t302))) else (galoislaw22_PermBack.j0 k l0 l1 true))) = some r := h
  clear h
  have HC3 := Aside0.mk H
  clear H
  go_enter Tryd.func11, Tryd.ntmps11
  go_upto_region 1 with (fail)
  go_cut [23] (fun v23 wc => ∃ (kq : Nat) (x23_2 : Bool), v23 = .bool x23_2 ∧ Aside0 (galoislaw22_PermBack.j0 kq l0 l1 x23_2 = some r) ∧ Aside0 (kq ≤ k) ∧ Aside0 (Below w.heap.size w wc))
  case first =>
    have H := HC3.out
    clear HC3
    replace H := Option.bind_eq_some_iff.mp H
    obtain ⟨t301, A40, H⟩ := H
    replace H : (if t301 = true then ((galoislaw22_right.f k l0 l1).bind fun t302 => (galoislaw22_PermBack.j0 k l0 l1 (!t302))) else (galoislaw22_PermBack.j0 k l0 l1 true)) = some r := H
    have A4 := Aside0.mk A40
    clear A40
    by_cases c5 : t301 = true
    · subst c5
      have H1 : ((galoislaw22_right.f k l0 l1).bind fun t302 => (galoislaw22_PermBack.j0 k l0 l1 (!t302))) = some r := by rw [if_pos rfl] at H; exact H
      clear H
      have H := H1
      clear H1
      replace H := Option.bind_eq_some_iff.mp H
      obtain ⟨t302, A60, H⟩ := H
      replace H : (galoislaw22_PermBack.j0 k l0 l1 (!t302)) = some r := H
      have A6 := Aside0.mk A60
      clear A60
      have H' := Aside0.mk H
      clear H
      go_wp2_with (first | ((with_reducible refine gate_callee (f := 12) rfl ?_); refine goesL_ (some 16) rfl rfl Tryd.func12 (by kernel_rfl) rfl #[] rfl (by (try simp only [List.map_toArray, List.map_cons, List.map_nil]); first | done | rfl | (simp only [List.length_drop, List.length_take]; rfl)) ?_; (with_reducible refine (galoislaw22_awake.calls k  true _ A4.out).mono ?_); rintro e w7 ⟨rfl, hb⟩; refine ⟨_, rfl, ?_⟩; have n0_ := Aside0.mk (below_step (by repeat (first | (with_reducible first | exact HB.out | apply below_alloc | apply pw_below_drewN | apply below_drew1) | exact HB.out)) hb); clear HB; have HB := n0_; clear n0_; (try clear hb); (try clear hb2); (try clear hk); (try clear hi)) | (go_at_call 43; (with_reducible refine (galoislaw22_right.calls k (fun k_ => k_ < w.heap.size) _ _ l0 (fun k_ => k_ < w.heap.size) _ _ l1 t302 _ ?side1 ?side2 A6.out).mono ?_); (case side1 => exact Kd.V_mk HC0.out (Kd.F_below (Kd.C_F (Kd.heap_int .i64) HR0.out) (by repeat (first | (with_reducible first | exact HB.out | apply below_alloc | apply pw_below_drewN | apply below_drew1) | exact HB.out)))); (case side2 => exact Kd.V_mk HC1.out (Kd.F_below (Kd.C_F (Kd.heap_int .i64) HR1.out) (by repeat (first | (with_reducible first | exact HB.out | apply below_alloc | apply pw_below_drewN | apply below_drew1) | exact HB.out)))); rintro e w8 ⟨rfl, hb⟩; have n0_ := Aside0.mk (below_step (by repeat (first | (with_reducible first | exact HB.out | apply below_alloc | apply pw_below_drewN | apply below_drew1) | exact HB.out)) hb); clear HB; have HB := n0_; clear n0_; (try clear hb); (try clear hb2); (try clear hk); (try clear hi)))
      go_meet
      case rel => exact ⟨_, (!t302), (by first | rfl | (simp; done) | (simp [*]; done)), H', ⟨by first | omega | exact Nat.le_refl _⟩, ⟨by repeat (first | (with_reducible first | exact HB.out | apply below_alloc | apply pw_below_drewN | apply below_drew1) | exact HB.out)⟩⟩
    · replace c5 := Bool.eq_false_iff.mpr c5
      subst c5
      have H1 : (galoislaw22_PermBack.j0 k l0 l1 true) = some r := by rw [if_neg (show ¬ (false = true) by decide)] at H; exact H
      clear H
      have H := H1
      clear H1
      have H' := Aside0.mk H
      clear H
      go_wp2_with (first | ((with_reducible refine gate_callee (f := 12) rfl ?_); refine goesL_ (some 16) rfl rfl Tryd.func12 (by kernel_rfl) rfl #[] rfl (by (try simp only [List.map_toArray, List.map_cons, List.map_nil]); first | done | rfl | (simp only [List.length_drop, List.length_take]; rfl)) ?_; (with_reducible refine (galoislaw22_awake.calls k  false _ A4.out).mono ?_); rintro e w9 ⟨rfl, hb⟩; refine ⟨_, rfl, ?_⟩; have n0_ := Aside0.mk (below_step (by repeat (first | (with_reducible first | exact HB.out | apply below_alloc | apply pw_below_drewN | apply below_drew1) | exact HB.out)) hb); clear HB; have HB := n0_; clear n0_; (try clear hb); (try clear hb2); (try clear hk); (try clear hi)))
      go_meet
      case rel => exact ⟨_, (true), (by first | rfl | (simp; done) | (simp [*]; done)), H', ⟨by first | omega | exact Nat.le_refl _⟩, ⟨by repeat (first | (with_reducible first | exact HB.out | apply below_alloc | apply pw_below_drewN | apply below_drew1) | exact HB.out)⟩⟩
  case rest =>
    clear HC3
    try clear c1
    try clear p2
    try clear c5
    obtain ⟨kq, x23_2, rfl, HA, HJ2, HB⟩ := hcut
    cases kq with
    | zero => exact absurd HA.out (by simp [galoislaw22_PermBack.j0])
    | succ kj2 =>
      have H := HA.out
      clear HA
      simp only [galoislaw22_PermBack.j0] at H
      by_cases c10 : x23_2 = true
      · subst c10
        have H1 : ((galoislaw22_awake.f kj2).bind fun t303 => (some t303)) = some r := by rw [if_pos rfl] at H; exact H
        clear H
        have H := H1
        clear H1
        replace H := Option.bind_eq_some_iff.mp H
        obtain ⟨t303, A110, H⟩ := H
        replace H : (some t303) = some r := H
        have A11 := Aside0.mk A110
        clear A110
        obtain rfl := Option.some.inj H
        go_wp2_with (first | ((with_reducible refine gate_callee (f := 12) rfl ?_); refine goesL_ (some 24) rfl rfl Tryd.func12 (by kernel_rfl) rfl #[] rfl (by (try simp only [List.map_toArray, List.map_cons, List.map_nil]); first | done | rfl | (simp only [List.length_drop, List.length_take]; rfl)) ?_; (with_reducible refine (galoislaw22_awake.calls kj2  t303 _ A11.out).mono ?_); rintro e w12 ⟨rfl, hb⟩; refine ⟨_, rfl, ?_⟩; have n0_ := Aside0.mk (below_step (by repeat (first | (with_reducible first | exact HB.out | apply below_alloc | apply pw_below_drewN | apply below_drew1) | exact HB.out)) hb); clear HB; have HB := n0_; clear n0_; (try clear hb); (try clear hb2); (try clear hk); (try clear hi)))
        go_ret
        exact ⟨by first | rfl | (simp [errW_none, errW_some] <;> rfl) | (simp [*, errW_none, errW_some] <;> rfl), by repeat (first | (with_reducible first | exact HB.out | apply below_alloc | apply pw_below_drewN | apply below_drew1) | exact HB.out)⟩
      · replace c10 := Bool.eq_false_iff.mpr c10
        subst c10
        have H1 : ((perm_Cycles.f kj2 l0).bind fun bt304 => ((perm_Rank.f kj2 l0).bind fun bt308 => ((perm_Format.f kj2 l0).bind fun bt310 => (if bt304.2 = 0 then (if bt308.2 = 0 then (galoislaw22_PermBack.j1 kj2 l0 l1 bt304.1 bt308.1 bt310.1 (bt310.2 != 0)) else (galoislaw22_PermBack.j1 kj2 l0 l1 bt304.1 bt308.1 bt310.1 true)) else (galoislaw22_PermBack.j1 kj2 l0 l1 bt304.1 bt308.1 bt310.1 true))))) = some r := by rw [if_neg (show ¬ (false = true) by decide)] at H; exact H
        clear H
        have H := H1
        clear H1
        replace H := Option.bind_eq_some_iff.mp H
        obtain ⟨⟨t304, t305⟩, A130, H⟩ := H
        replace H : ((perm_Rank.f kj2 l0).bind fun bt308 => ((perm_Format.f kj2 l0).bind fun bt310 => (if t305 = 0 then (if bt308.2 = 0 then (galoislaw22_PermBack.j1 kj2 l0 l1 t304 bt308.1 bt310.1 (bt310.2 != 0)) else (galoislaw22_PermBack.j1 kj2 l0 l1 t304 bt308.1 bt310.1 true)) else (galoislaw22_PermBack.j1 kj2 l0 l1 t304 bt308.1 bt310.1 true)))) = some r := H
        have A13 := Aside0.mk A130
        clear A130
        replace H := Option.bind_eq_some_iff.mp H
        obtain ⟨⟨t308, t309⟩, A140, H⟩ := H
        replace H : ((perm_Format.f kj2 l0).bind fun bt310 => (if t305 = 0 then (if t309 = 0 then (galoislaw22_PermBack.j1 kj2 l0 l1 t304 t308 bt310.1 (bt310.2 != 0)) else (galoislaw22_PermBack.j1 kj2 l0 l1 t304 t308 bt310.1 true)) else (galoislaw22_PermBack.j1 kj2 l0 l1 t304 t308 bt310.1 true))) = some r := H
        have A14 := Aside0.mk A140
        clear A140
        replace H := Option.bind_eq_some_iff.mp H
        obtain ⟨⟨t310, t311⟩, A150, H⟩ := H
        replace H : (if t305 = 0 then (if t309 = 0 then (galoislaw22_PermBack.j1 kj2 l0 l1 t304 t308 t310 (t311 != 0)) else (galoislaw22_PermBack.j1 kj2 l0 l1 t304 t308 t310 true)) else (galoislaw22_PermBack.j1 kj2 l0 l1 t304 t308 t310 true)) = some r := H
        have A15 := Aside0.mk A150
        clear A150
        have HC16 := Aside0.mk H
        clear H
        go_upto_region 6 with (first | ((with_reducible refine gate_callee (f := 46) rfl ?_); refine goesL_ (some 27) rfl rfl Tryd.func46 (by kernel_rfl) rfl #[.slice A0 l0.length c0] rfl (by (try simp only [List.map_toArray, List.map_cons, List.map_nil]); first | done | rfl | (simp only [List.length_drop, List.length_take]; rfl)) ?_; (with_reducible refine (perm_Cycles.calls kj2 _ _ l0 t304 t305 _ ?side1 ?side2 A13.out).mono ?_); (case side1 => repeat (first | exact (Kd.C_below HR0.out HB.out) | (with_reducible refine Kd.C_alloc ?_ _) | (with_reducible refine Kd.C_drewN ?_ _) | (with_reducible refine Kd.C_drew ?_))); (case side2 => exact HC0.out); rintro e w17 ⟨v306, rfl, ho0, hb⟩; refine ⟨_, rfl, ?_⟩; have n0_ := Aside0.mk (Kd.S_lower ho0 (below_size (by repeat (first | (with_reducible first | exact HB.out | apply below_alloc | apply pw_below_drewN | apply below_drew1) | exact HB.out)))); have n1_ := Aside0.mk (below_step (by repeat (first | (with_reducible first | exact HB.out | apply below_alloc | apply pw_below_drewN | apply below_drew1) | exact HB.out)) hb); clear HB; have HO307 := n0_; have HB := n1_; clear n0_ n1_; (try clear hb); (try clear hb2); (try clear hk); (try clear hi); (try clear ho0)) | ((with_reducible refine gate_callee (f := 26) rfl ?_); refine goesL_ (some 32) rfl rfl Tryd.func26 (by kernel_rfl) rfl #[.slice A0 l0.length c0] rfl (by (try simp only [List.map_toArray, List.map_cons, List.map_nil]); first | done | rfl | (simp only [List.length_drop, List.length_take]; rfl)) ?_; (with_reducible refine (perm_Rank.calls kj2 _ _ l0 t308 t309 _ ?side1 ?side2 A14.out).mono ?_); (case side1 => repeat (first | exact (Kd.C_below HR0.out HB.out) | (with_reducible refine Kd.C_alloc ?_ _) | (with_reducible refine Kd.C_drewN ?_ _) | (with_reducible refine Kd.C_drew ?_))); (case side2 => exact HC0.out); rintro e w' ⟨rfl, ⟨nd, rfl⟩⟩; refine ⟨_, rfl, ?_⟩) | ((with_reducible refine gate_callee (f := 41) rfl ?_); refine goesL_ (some 37) rfl rfl Tryd.func41 (by kernel_rfl) rfl #[.slice A0 l0.length c0] rfl (by (try simp only [List.map_toArray, List.map_cons, List.map_nil]); first | done | rfl | (simp only [List.length_drop, List.length_take]; rfl)) ?_; (with_reducible refine (perm_Format.calls kj2 _ _ l0 t310 t311 _ ?side1 ?side2 A15.out).mono ?_); (case side1 => repeat (first | exact (Kd.C_below HR0.out (by repeat (first | (with_reducible first | exact HB.out | apply below_alloc | apply pw_below_drewN | apply below_drew1) | exact HB.out))) | (with_reducible refine Kd.C_alloc ?_ _) | (with_reducible refine Kd.C_drewN ?_ _) | (with_reducible refine Kd.C_drew ?_))); (case side2 => exact HC0.out); rintro e w18 ⟨rfl, hb⟩; refine ⟨_, rfl, ?_⟩; have n0_ := Aside0.mk (Kd.S_below (by (with_reducible repeat (first | apply Kd.S_alloc | apply Kd.S_drewN | apply Kd.S_drew)); exact HO307.out) hb); have n1_ := Aside0.mk (below_step (by repeat (first | (with_reducible first | exact HB.out | apply below_alloc | apply pw_below_drewN | apply below_drew1) | exact HB.out)) hb); clear HO307; clear HB; have HO307 := n0_; have HB := n1_; clear n0_ n1_; (try clear hb); (try clear hb2); (try clear hk); (try clear hi)))
        (try simp only [Act.put, List.setIfInBounds_toArray, List.set_cons_zero, List.set_cons_succ])
        go_cut [49] (fun v49 wc => ∃ (kq : Nat) (x49_15 : Bool), v49 = .bool x49_15 ∧ Aside0 (galoislaw22_PermBack.j1 kq l0 l1 t304 t308 t310 x49_15 = some r) ∧ Aside0 (kq ≤ kj2) ∧ Aside0 (Kd.S (Kd.slice 3 (Kd.int .i64)) 22 wc w.heap.size (fun _ => True) v306 t304) ∧ Aside0 (Below w.heap.size w wc))
        case first =>
          have H := HC16.out
          clear HC16
          by_cases c19 : t305 = 0
          · rw [if_pos c19] at H
            have c19b0 : (t305 == 0) = true := beq_iff_eq.mpr c19
            have c19b1 : (t305 != 0) = false := bne_eq_false_iff_eq.mpr c19
            clear c19
            (first | rw [c19b0] | (simp only [i64_w, i32_w]; rw [c19b0]) | skip)
            by_cases c20 : t309 = 0
            · rw [if_pos c20] at H
              have c20b0 : (t309 == 0) = true := beq_iff_eq.mpr c20
              have c20b1 : (t309 != 0) = false := bne_eq_false_iff_eq.mpr c20
              clear c20
              have H' := Aside0.mk H
              clear H
              go_wp2
              go_meet
              case rel => exact ⟨_, ((t311 != 0)), (by first | rfl | (simp; done) | (simp [*]; done)), H', ⟨by have := HJ2.out; first | omega | exact Nat.le_refl _⟩, ⟨by (with_reducible repeat (first | apply Kd.S_alloc | apply Kd.S_drewN | apply Kd.S_drew)); exact HO307.out⟩, ⟨by repeat (first | (with_reducible first | exact HB.out | apply below_alloc | apply pw_below_drewN | apply below_drew1) | exact HB.out)⟩⟩
            · rw [if_neg c20] at H
              have c20b0 : (t309 == 0) = false := beq_eq_false_iff_ne.mpr c20
              have c20b1 : (t309 != 0) = true := bne_iff_ne.mpr c20
              have H' := Aside0.mk H
              clear H
              go_wp2
              go_meet
              case rel => exact ⟨_, (true), (by first | rfl | (simp; done) | (simp [*]; done)), H', ⟨by have := HJ2.out; first | omega | exact Nat.le_refl _⟩, ⟨by (with_reducible repeat (first | apply Kd.S_alloc | apply Kd.S_drewN | apply Kd.S_drew)); exact HO307.out⟩, ⟨by repeat (first | (with_reducible first | exact HB.out | apply below_alloc | apply pw_below_drewN | apply below_drew1) | exact HB.out)⟩⟩
          · rw [if_neg c19] at H
            have c19b0 : (t305 == 0) = false := beq_eq_false_iff_ne.mpr c19
            have c19b1 : (t305 != 0) = true := bne_iff_ne.mpr c19
            (first | rw [c19b0] | (simp only [i64_w, i32_w]; rw [c19b0]) | skip)
            have H' := Aside0.mk H
            clear H
            go_wp2
            go_meet
            case rel => exact ⟨_, (true), (by first | rfl | (simp; done) | (simp [*]; done)), H', ⟨by have := HJ2.out; first | omega | exact Nat.le_refl _⟩, ⟨by (with_reducible repeat (first | apply Kd.S_alloc | apply Kd.S_drewN | apply Kd.S_drew)); exact HO307.out⟩, ⟨by repeat (first | (with_reducible first | exact HB.out | apply below_alloc | apply pw_below_drewN | apply below_drew1) | exact HB.out)⟩⟩
        case rest =>
          clear HC16
          try clear c1
          try clear c2
          try clear p2
          try clear c4
          try clear c5
          try clear c10
          try clear c11
          try clear c12
          try clear c19
          try clear c19b0
          try clear c19b1
          try clear c20
          try clear c20b0
          try clear c20b1
          try clear p2
          obtain ⟨kq, x49_15, rfl, HA, HJ15, HO_5, HB⟩ := hcut
          cases kq with
          | zero => exact absurd HA.out (by simp [galoislaw22_PermBack.j1])
          | succ kj15 =>
            have H := HA.out
            clear HA
            simp only [galoislaw22_PermBack.j1] at H
            by_cases c21 : x49_15 = true
            · subst c21
              have H1 : (some false) = some r := by rw [if_pos rfl] at H; exact H
              clear H
              have H := H1
              clear H1
              obtain rfl := Option.some.inj H
              go_wp2
              go_ret
              exact ⟨by first | rfl | (simp [errW_none, errW_some] <;> rfl) | (simp [*, errW_none, errW_some] <;> rfl), by repeat (first | (with_reducible first | exact HB.out | apply below_alloc | apply pw_below_drewN | apply below_drew1) | exact HB.out)⟩
            · replace c21 := Bool.eq_false_iff.mpr c21
              subst c21
              have H1 : ((perm_FromCycles.f kj15 (l0.length : Int) t304).bind fun bt312 => ((perm_Unrank.f kj15 (l0.length : Int) t308).bind fun bt316 => ((perm_Parse.f kj15 (l0.length : Int) t310).bind fun bt320 => (if bt312.2 = 0 then (if bt316.2 = 0 then (if bt320.2 = 0 then ((galoisref22_Same.f kj15 bt312.1 l0).bind fun t324 => (if t324 = true then ((galoisref22_Same.f kj15 bt316.1 l0).bind fun t325 => (if t325 = true then ((galoisref22_Same.f kj15 bt320.1 l0).bind fun t326 => (galoislaw22_PermBack.j2 kj15 l0 l1 t308 (!t326))) else (galoislaw22_PermBack.j2 kj15 l0 l1 t308 true))) else (galoislaw22_PermBack.j2 kj15 l0 l1 t308 true))) else (galoislaw22_PermBack.j2 kj15 l0 l1 t308 true)) else (galoislaw22_PermBack.j2 kj15 l0 l1 t308 true)) else (galoislaw22_PermBack.j2 kj15 l0 l1 t308 true))))) = some r := by rw [if_neg (show ¬ (false = true) by decide)] at H; exact H
              clear H
              have H := H1
              clear H1
              replace H := Option.bind_eq_some_iff.mp H
              obtain ⟨⟨t312, t313⟩, A220, H⟩ := H
              replace H : ((perm_Unrank.f kj15 (l0.length : Int) t308).bind fun bt316 => ((perm_Parse.f kj15 (l0.length : Int) t310).bind fun bt320 => (if t313 = 0 then (if bt316.2 = 0 then (if bt320.2 = 0 then ((galoisref22_Same.f kj15 t312 l0).bind fun t324 => (if t324 = true then ((galoisref22_Same.f kj15 bt316.1 l0).bind fun t325 => (if t325 = true then ((galoisref22_Same.f kj15 bt320.1 l0).bind fun t326 => (galoislaw22_PermBack.j2 kj15 l0 l1 t308 (!t326))) else (galoislaw22_PermBack.j2 kj15 l0 l1 t308 true))) else (galoislaw22_PermBack.j2 kj15 l0 l1 t308 true))) else (galoislaw22_PermBack.j2 kj15 l0 l1 t308 true)) else (galoislaw22_PermBack.j2 kj15 l0 l1 t308 true)) else (galoislaw22_PermBack.j2 kj15 l0 l1 t308 true)))) = some r := H
              have A22 := Aside0.mk A220
              clear A220
              replace H := Option.bind_eq_some_iff.mp H
              obtain ⟨⟨t316, t317⟩, A230, H⟩ := H
              replace H : ((perm_Parse.f kj15 (l0.length : Int) t310).bind fun bt320 => (if t313 = 0 then (if t317 = 0 then (if bt320.2 = 0 then ((galoisref22_Same.f kj15 t312 l0).bind fun t324 => (if t324 = true then ((galoisref22_Same.f kj15 t316 l0).bind fun t325 => (if t325 = true then ((galoisref22_Same.f kj15 bt320.1 l0).bind fun t326 => (galoislaw22_PermBack.j2 kj15 l0 l1 t308 (!t326))) else (galoislaw22_PermBack.j2 kj15 l0 l1 t308 true))) else (galoislaw22_PermBack.j2 kj15 l0 l1 t308 true))) else (galoislaw22_PermBack.j2 kj15 l0 l1 t308 true)) else (galoislaw22_PermBack.j2 kj15 l0 l1 t308 true)) else (galoislaw22_PermBack.j2 kj15 l0 l1 t308 true))) = some r := H
              have A23 := Aside0.mk A230
              clear A230
              replace H := Option.bind_eq_some_iff.mp H
              obtain ⟨⟨t320, t321⟩, A240, H⟩ := H
              replace H : (if t313 = 0 then (if t317 = 0 then (if t321 = 0 then ((galoisref22_Same.f kj15 t312 l0).bind fun t324 => (if t324 = true then ((galoisref22_Same.f kj15 t316 l0).bind fun t325 => (if t325 = true then ((galoisref22_Same.f kj15 t320 l0).bind fun t326 => (galoislaw22_PermBack.j2 kj15 l0 l1 t308 (!t326))) else (galoislaw22_PermBack.j2 kj15 l0 l1 t308 true))) else (galoislaw22_PermBack.j2 kj15 l0 l1 t308 true))) else (galoislaw22_PermBack.j2 kj15 l0 l1 t308 true)) else (galoislaw22_PermBack.j2 kj15 l0 l1 t308 true)) else (galoislaw22_PermBack.j2 kj15 l0 l1 t308 true)) = some r := H
              have A24 := Aside0.mk A240
              clear A240
              have HC25 := Aside0.mk H
              clear H
              obtain ⟨Ao26, co26, eo26⟩ := Kd.S_slice HO_5.out
              subst eo26
              go_upto_region 11 with (first | ((with_reducible refine gate_callee (f := 20) rfl ?_); refine goesL_ (some 54) rfl rfl Tryd.func20 (by kernel_rfl) rfl #[.int .i64 (l0.length : Int), .slice Ao26 t304.length co26] rfl (by (try simp only [List.map_toArray, List.map_cons, List.map_nil]); first | done | rfl | (simp only [List.length_drop, List.length_take]; rfl)) ?_; (with_reducible refine (perm_FromCycles.calls kj15 (l0.length : Int) _ _ t304 t312 t313 _ ?side1 ?side2 A22.out).mono ?_); (case side1 => repeat (first | exact (Kd.S_reads' HO_5.out).2.2 | (with_reducible refine Kd.C_alloc ?_ _) | (with_reducible refine Kd.C_drewN ?_ _) | (with_reducible refine Kd.C_drew ?_))); (case side2 => exact (Kd.S_reads' HO_5.out).2.1); rintro e w27 ⟨v314, rfl, ho0, hb⟩; refine ⟨_, rfl, ?_⟩; have n0_ := Aside0.mk (Kd.S_elder' (by (with_reducible repeat (first | apply Kd.S_alloc | apply Kd.S_drewN | apply Kd.S_drew)); exact HO_5.out) (Kd.R_base ho0) hb); have n1_ := Aside0.mk (Kd.R_lower ho0 (below_size (by repeat (first | (with_reducible first | exact HB.out | apply below_alloc | apply pw_below_drewN | apply below_drew1) | exact HB.out)))); have n2_ := Aside0.mk (below_step (by repeat (first | (with_reducible first | exact HB.out | apply below_alloc | apply pw_below_drewN | apply below_drew1) | exact HB.out)) hb); clear HO_5; clear HB; have HO_5 := n0_; have HO315 := n1_; have HB := n2_; clear n0_ n1_ n2_; (try clear hb); (try clear hb2); (try clear hk); (try clear hi); (try clear ho0)) | ((with_reducible refine gate_callee (f := 24) rfl ?_); refine goesL_ (some 61) rfl rfl Tryd.func24 (by kernel_rfl) rfl #[.int .i64 (l0.length : Int), .int .i64 t308] rfl (by (try simp only [List.map_toArray, List.map_cons, List.map_nil]); first | done | rfl | (simp only [List.length_drop, List.length_take]; rfl)) ?_; (with_reducible refine (perm_Unrank.calls kj15 (l0.length : Int) t308 t316 t317 _ A23.out).mono ?_); rintro e w28 ⟨v318, rfl, ho0, hb⟩; refine ⟨_, rfl, ?_⟩; have n0_ := Aside0.mk (Kd.S_elder' (by (with_reducible repeat (first | apply Kd.S_alloc | apply Kd.S_drewN | apply Kd.S_drew)); exact HO_5.out) (Kd.R_base ho0) hb); have n1_ := Aside0.mk (Kd.R_elder' (by (with_reducible repeat (first | apply Kd.R_alloc | apply Kd.R_drewN | apply Kd.R_drew)); exact HO315.out) (Kd.R_base ho0) hb); have n2_ := Aside0.mk (Kd.R_lower (Kd.R_new' ho0 (Kd.R_lt (by (with_reducible repeat (first | apply Kd.R_alloc | apply Kd.R_drewN | apply Kd.R_drew)); exact HO315.out))) (below_size (by repeat (first | (with_reducible first | exact HB.out | apply below_alloc | apply pw_below_drewN | apply below_drew1) | exact HB.out)))); have n3_ := Aside0.mk (below_step (by repeat (first | (with_reducible first | exact HB.out | apply below_alloc | apply pw_below_drewN | apply below_drew1) | exact HB.out)) hb); clear HO_5; clear HO315; clear HB; have HO_5 := n0_; have HO315 := n1_; have HO319 := n2_; have HB := n3_; clear n0_ n1_ n2_ n3_; (try clear hb); (try clear hb2); (try clear hk); (try clear hi); (try clear ho0)) | ((with_reducible refine gate_callee (f := 39) rfl ?_); refine goesL_ (some 68) rfl rfl Tryd.func39 (by kernel_rfl) rfl #[.int .i64 (l0.length : Int), .string t310] rfl (by (try simp only [List.map_toArray, List.map_cons, List.map_nil]); first | done | rfl | (simp only [List.length_drop, List.length_take]; rfl)) ?_; (with_reducible refine (perm_Parse.calls kj15 (l0.length : Int) t310 t320 t321 _ A24.out).mono ?_); rintro e w29 ⟨v322, rfl, ho0, hb⟩; refine ⟨_, rfl, ?_⟩; have n0_ := Aside0.mk (Kd.S_elder' (by (with_reducible repeat (first | apply Kd.S_alloc | apply Kd.S_drewN | apply Kd.S_drew)); exact HO_5.out) (Kd.R_base ho0) hb); have n1_ := Aside0.mk (Kd.R_elder' (by (with_reducible repeat (first | apply Kd.R_alloc | apply Kd.R_drewN | apply Kd.R_drew)); exact HO315.out) (Kd.R_base ho0) hb); have n2_ := Aside0.mk (Kd.R_elder' (by (with_reducible repeat (first | apply Kd.R_alloc | apply Kd.R_drewN | apply Kd.R_drew)); exact HO319.out) (Kd.R_base ho0) hb); have n3_ := Aside0.mk (Kd.R_lower (Kd.R_new' (Kd.R_new' ho0 (Kd.R_lt (by (with_reducible repeat (first | apply Kd.R_alloc | apply Kd.R_drewN | apply Kd.R_drew)); exact HO315.out))) (Kd.R_lt (by (with_reducible repeat (first | apply Kd.R_alloc | apply Kd.R_drewN | apply Kd.R_drew)); exact HO319.out))) (below_size (by repeat (first | (with_reducible first | exact HB.out | apply below_alloc | apply pw_below_drewN | apply below_drew1) | exact HB.out)))); have n4_ := Aside0.mk (below_step (by repeat (first | (with_reducible first | exact HB.out | apply below_alloc | apply pw_below_drewN | apply below_drew1) | exact HB.out)) hb); clear HO_5; clear HO315; clear HO319; clear HB; have HO_5 := n0_; have HO315 := n1_; have HO319 := n2_; have HO323 := n3_; have HB := n4_; clear n0_ n1_ n2_ n3_ n4_; (try clear hb); (try clear hb2); (try clear hk); (try clear hi); (try clear ho0)))
              (try simp only [Act.put, List.setIfInBounds_toArray, List.set_cons_zero, List.set_cons_succ])
              go_cut [98] (fun v98 wc => ∃ (kq : Nat) (x98_24 : Bool), v98 = .bool x98_24 ∧ Aside0 (galoislaw22_PermBack.j2 kq l0 l1 t308 x98_24 = some r) ∧ Aside0 (kq ≤ kj15) ∧ Aside0 (Below w.heap.size w wc))
              case first =>
                have H := HC25.out
                clear HC25
                by_cases c30 : t313 = 0
                · rw [if_pos c30] at H
                  have c30b0 : (t313 == 0) = true := beq_iff_eq.mpr c30
                  have c30b1 : (t313 != 0) = false := bne_eq_false_iff_eq.mpr c30
                  clear c30
                  (first | rw [c30b0] | (simp only [i64_w, i32_w]; rw [c30b0]) | skip)
                  by_cases c31 : t317 = 0
                  · rw [if_pos c31] at H
                    have c31b0 : (t317 == 0) = true := beq_iff_eq.mpr c31
                    have c31b1 : (t317 != 0) = false := bne_eq_false_iff_eq.mpr c31
                    clear c31
                    by_cases c32 : t321 = 0
                    · rw [if_pos c32] at H
                      have c32b0 : (t321 == 0) = true := beq_iff_eq.mpr c32
                      have c32b1 : (t321 != 0) = false := bne_eq_false_iff_eq.mpr c32
                      clear c32
                      replace H := Option.bind_eq_some_iff.mp H
                      obtain ⟨t324, A330, H⟩ := H
                      replace H : (if t324 = true then ((galoisref22_Same.f kj15 t316 l0).bind fun t325 => (if t325 = true then ((galoisref22_Same.f kj15 t320 l0).bind fun t326 => (galoislaw22_PermBack.j2 kj15 l0 l1 t308 (!t326))) else (galoislaw22_PermBack.j2 kj15 l0 l1 t308 true))) else (galoislaw22_PermBack.j2 kj15 l0 l1 t308 true)) = some r := H
                      have A33 := Aside0.mk A330
                      clear A330
                      by_cases c34 : t324 = true
                      · subst c34
                        have H1 : ((galoisref22_Same.f kj15 t316 l0).bind fun t325 => (if t325 = true then ((galoisref22_Same.f kj15 t320 l0).bind fun t326 => (galoislaw22_PermBack.j2 kj15 l0 l1 t308 (!t326))) else (galoislaw22_PermBack.j2 kj15 l0 l1 t308 true))) = some r := by rw [if_pos rfl] at H; exact H
                        clear H
                        have H := H1
                        clear H1
                        replace H := Option.bind_eq_some_iff.mp H
                        obtain ⟨t325, A350, H⟩ := H
                        replace H : (if t325 = true then ((galoisref22_Same.f kj15 t320 l0).bind fun t326 => (galoislaw22_PermBack.j2 kj15 l0 l1 t308 (!t326))) else (galoislaw22_PermBack.j2 kj15 l0 l1 t308 true)) = some r := H
                        have A35 := Aside0.mk A350
                        clear A350
                        by_cases c36 : t325 = true
                        · subst c36
                          have H1 : ((galoisref22_Same.f kj15 t320 l0).bind fun t326 => (galoislaw22_PermBack.j2 kj15 l0 l1 t308 (!t326))) = some r := by rw [if_pos rfl] at H; exact H
                          clear H
                          have H := H1
                          clear H1
                          replace H := Option.bind_eq_some_iff.mp H
                          obtain ⟨t326, A370, H⟩ := H
                          replace H : (galoislaw22_PermBack.j2 kj15 l0 l1 t308 (!t326)) = some r := H
                          have A37 := Aside0.mk A370
                          clear A370
                          have H' := Aside0.mk H
                          clear H
                          obtain ⟨Ao38, co38, eo38⟩ := Kd.R_slice HO315.out
                          subst eo38
                          go_wp2_with (first | (go_at_call 19; (with_reducible refine (galoisref22_Same.calls kj15 _ _ t312 _ _ l0 true _ ?side1 ?side2 ?side3 ?side4 A33.out).mono ?_); (case side1 => repeat (first | exact (Kd.R_reads' HO315.out).2.2 | (with_reducible refine Kd.C_alloc ?_ _) | (with_reducible refine Kd.C_drewN ?_ _) | (with_reducible refine Kd.C_drew ?_))); (case side2 => exact (Kd.R_reads' HO315.out).2.1); (case side3 => repeat (first | exact (Kd.C_below HR0.out HB.out) | (with_reducible refine Kd.C_alloc ?_ _) | (with_reducible refine Kd.C_drewN ?_ _) | (with_reducible refine Kd.C_drew ?_))); (case side4 => exact HC0.out); rintro e w' ⟨rfl, ⟨nd, rfl⟩⟩; obtain ⟨Ao39, co39, eo39⟩ := Kd.R_slice HO319.out; subst eo39) | (go_at_call 19; (with_reducible refine (galoisref22_Same.calls kj15 _ _ t316 _ _ l0 true _ ?side1 ?side2 ?side3 ?side4 A35.out).mono ?_); (case side1 => repeat (first | exact (Kd.R_reads' HO319.out).2.2 | (with_reducible refine Kd.C_alloc ?_ _) | (with_reducible refine Kd.C_drewN ?_ _) | (with_reducible refine Kd.C_drew ?_))); (case side2 => exact (Kd.R_reads' HO319.out).2.1); (case side3 => repeat (first | exact (Kd.C_below HR0.out (by repeat (first | (with_reducible first | exact HB.out | apply below_alloc | apply pw_below_drewN | apply below_drew1) | exact HB.out))) | (with_reducible refine Kd.C_alloc ?_ _) | (with_reducible refine Kd.C_drewN ?_ _) | (with_reducible refine Kd.C_drew ?_))); (case side4 => exact HC0.out); rintro e w' ⟨rfl, ⟨nd, rfl⟩⟩; obtain ⟨Ao40, co40, eo40⟩ := Kd.R_slice HO323.out; subst eo40) | (go_at_call 19; (with_reducible refine (galoisref22_Same.calls kj15 _ _ t320 _ _ l0 t326 _ ?side1 ?side2 ?side3 ?side4 A37.out).mono ?_); (case side1 => repeat (first | exact (Kd.R_reads' HO323.out).2.2 | (with_reducible refine Kd.C_alloc ?_ _) | (with_reducible refine Kd.C_drewN ?_ _) | (with_reducible refine Kd.C_drew ?_))); (case side2 => exact (Kd.R_reads' HO323.out).2.1); (case side3 => repeat (first | exact (Kd.C_below HR0.out (by repeat (first | (with_reducible first | exact HB.out | apply below_alloc | apply pw_below_drewN | apply below_drew1) | exact HB.out))) | (with_reducible refine Kd.C_alloc ?_ _) | (with_reducible refine Kd.C_drewN ?_ _) | (with_reducible refine Kd.C_drew ?_))); (case side4 => exact HC0.out); rintro e w' ⟨rfl, ⟨nd, rfl⟩⟩))
                          go_meet
                          case rel => exact ⟨_, (!t326), (by first | rfl | (simp; done) | (simp [*]; done)), H', ⟨by have := HJ2.out; have := HJ15.out; first | omega | exact Nat.le_refl _⟩, ⟨by repeat (first | (with_reducible first | exact HB.out | apply below_alloc | apply pw_below_drewN | apply below_drew1) | exact HB.out)⟩⟩
                        · replace c36 := Bool.eq_false_iff.mpr c36
                          subst c36
                          have H1 : (galoislaw22_PermBack.j2 kj15 l0 l1 t308 true) = some r := by rw [if_neg (show ¬ (false = true) by decide)] at H; exact H
                          clear H
                          have H := H1
                          clear H1
                          have H' := Aside0.mk H
                          clear H
                          obtain ⟨Ao41, co41, eo41⟩ := Kd.R_slice HO315.out
                          subst eo41
                          go_wp2_with (first | (go_at_call 19; (with_reducible refine (galoisref22_Same.calls kj15 _ _ t312 _ _ l0 true _ ?side1 ?side2 ?side3 ?side4 A33.out).mono ?_); (case side1 => repeat (first | exact (Kd.R_reads' HO315.out).2.2 | (with_reducible refine Kd.C_alloc ?_ _) | (with_reducible refine Kd.C_drewN ?_ _) | (with_reducible refine Kd.C_drew ?_))); (case side2 => exact (Kd.R_reads' HO315.out).2.1); (case side3 => repeat (first | exact (Kd.C_below HR0.out HB.out) | (with_reducible refine Kd.C_alloc ?_ _) | (with_reducible refine Kd.C_drewN ?_ _) | (with_reducible refine Kd.C_drew ?_))); (case side4 => exact HC0.out); rintro e w' ⟨rfl, ⟨nd, rfl⟩⟩; obtain ⟨Ao42, co42, eo42⟩ := Kd.R_slice HO319.out; subst eo42) | (go_at_call 19; (with_reducible refine (galoisref22_Same.calls kj15 _ _ t316 _ _ l0 false _ ?side1 ?side2 ?side3 ?side4 A35.out).mono ?_); (case side1 => repeat (first | exact (Kd.R_reads' HO319.out).2.2 | (with_reducible refine Kd.C_alloc ?_ _) | (with_reducible refine Kd.C_drewN ?_ _) | (with_reducible refine Kd.C_drew ?_))); (case side2 => exact (Kd.R_reads' HO319.out).2.1); (case side3 => repeat (first | exact (Kd.C_below HR0.out (by repeat (first | (with_reducible first | exact HB.out | apply below_alloc | apply pw_below_drewN | apply below_drew1) | exact HB.out))) | (with_reducible refine Kd.C_alloc ?_ _) | (with_reducible refine Kd.C_drewN ?_ _) | (with_reducible refine Kd.C_drew ?_))); (case side4 => exact HC0.out); rintro e w' ⟨rfl, ⟨nd, rfl⟩⟩))
                          go_meet
                          case rel => exact ⟨_, (true), (by first | rfl | (simp; done) | (simp [*]; done)), H', ⟨by have := HJ2.out; have := HJ15.out; first | omega | exact Nat.le_refl _⟩, ⟨by repeat (first | (with_reducible first | exact HB.out | apply below_alloc | apply pw_below_drewN | apply below_drew1) | exact HB.out)⟩⟩
                      · replace c34 := Bool.eq_false_iff.mpr c34
                        subst c34
                        have H1 : (galoislaw22_PermBack.j2 kj15 l0 l1 t308 true) = some r := by rw [if_neg (show ¬ (false = true) by decide)] at H; exact H
                        clear H
                        have H := H1
                        clear H1
                        have H' := Aside0.mk H
                        clear H
                        obtain ⟨Ao43, co43, eo43⟩ := Kd.R_slice HO315.out
                        subst eo43
                        go_wp2_with (first | (go_at_call 19; (with_reducible refine (galoisref22_Same.calls kj15 _ _ t312 _ _ l0 false _ ?side1 ?side2 ?side3 ?side4 A33.out).mono ?_); (case side1 => repeat (first | exact (Kd.R_reads' HO315.out).2.2 | (with_reducible refine Kd.C_alloc ?_ _) | (with_reducible refine Kd.C_drewN ?_ _) | (with_reducible refine Kd.C_drew ?_))); (case side2 => exact (Kd.R_reads' HO315.out).2.1); (case side3 => repeat (first | exact (Kd.C_below HR0.out HB.out) | (with_reducible refine Kd.C_alloc ?_ _) | (with_reducible refine Kd.C_drewN ?_ _) | (with_reducible refine Kd.C_drew ?_))); (case side4 => exact HC0.out); rintro e w' ⟨rfl, ⟨nd, rfl⟩⟩))
                        go_meet
                        case rel => exact ⟨_, (true), (by first | rfl | (simp; done) | (simp [*]; done)), H', ⟨by have := HJ2.out; have := HJ15.out; first | omega | exact Nat.le_refl _⟩, ⟨by repeat (first | (with_reducible first | exact HB.out | apply below_alloc | apply pw_below_drewN | apply below_drew1) | exact HB.out)⟩⟩
                    · rw [if_neg c32] at H
                      have c32b0 : (t321 == 0) = false := beq_eq_false_iff_ne.mpr c32
                      have c32b1 : (t321 != 0) = true := bne_iff_ne.mpr c32
                      have H' := Aside0.mk H
                      clear H
                      go_wp2
                      go_meet
                      case rel => exact ⟨_, (true), (by first | rfl | (simp; done) | (simp [*]; done)), H', ⟨by have := HJ2.out; have := HJ15.out; first | omega | exact Nat.le_refl _⟩, ⟨by repeat (first | (with_reducible first | exact HB.out | apply below_alloc | apply pw_below_drewN | apply below_drew1) | exact HB.out)⟩⟩
                  · rw [if_neg c31] at H
                    have c31b0 : (t317 == 0) = false := beq_eq_false_iff_ne.mpr c31
                    have c31b1 : (t317 != 0) = true := bne_iff_ne.mpr c31
                    have H' := Aside0.mk H
                    clear H
                    go_wp2
                    go_meet
                    case rel => exact ⟨_, (true), (by first | rfl | (simp; done) | (simp [*]; done)), H', ⟨by have := HJ2.out; have := HJ15.out; first | omega | exact Nat.le_refl _⟩, ⟨by repeat (first | (with_reducible first | exact HB.out | apply below_alloc | apply pw_below_drewN | apply below_drew1) | exact HB.out)⟩⟩
                · rw [if_neg c30] at H
                  have c30b0 : (t313 == 0) = false := beq_eq_false_iff_ne.mpr c30
                  have c30b1 : (t313 != 0) = true := bne_iff_ne.mpr c30
                  (first | rw [c30b0] | (simp only [i64_w, i32_w]; rw [c30b0]) | skip)
                  have H' := Aside0.mk H
                  clear H
                  go_wp2
                  go_meet
                  case rel => exact ⟨_, (true), (by first | rfl | (simp; done) | (simp [*]; done)), H', ⟨by have := HJ2.out; have := HJ15.out; first | omega | exact Nat.le_refl _⟩, ⟨by repeat (first | (with_reducible first | exact HB.out | apply below_alloc | apply pw_below_drewN | apply below_drew1) | exact HB.out)⟩⟩
              case rest =>
                clear HC25
                try clear c1
                try clear c2
                try clear p2
                try clear c3
                try clear c4
                try clear c5
                try clear c10
                try clear c11
                try clear c12
                try clear c19
                try clear c19b0
                try clear c19b1
                try clear c20
                try clear c20b0
                try clear c20b1
                try clear c21
                try clear c24
                try clear c26
                try clear c30
                try clear c30b0
                try clear c30b1
                try clear c31
                try clear c31b0
                try clear c31b1
                try clear c32
                try clear c32b0
                try clear c32b1
                try clear c34
                try clear c36
                try clear c39
                try clear c41
                try clear p2
                obtain ⟨kq, x98_24, rfl, HA, HJ24, HB⟩ := hcut
                cases kq with
                | zero => exact absurd HA.out (by simp [galoislaw22_PermBack.j2])
                | succ kj24 =>
                  have H := HA.out
                  clear HA
                  simp only [galoislaw22_PermBack.j2] at H
                  by_cases c44 : x98_24 = true
                  · subst c44
                    have H1 : (some false) = some r := by rw [if_pos rfl] at H; exact H
                    clear H
                    have H := H1
                    clear H1
                    obtain rfl := Option.some.inj H
                    go_wp2
                    go_ret
                    exact ⟨by first | rfl | (simp [errW_none, errW_some] <;> rfl) | (simp [*, errW_none, errW_some] <;> rfl), by repeat (first | (with_reducible first | exact HB.out | apply below_alloc | apply pw_below_drewN | apply below_drew1) | exact HB.out)⟩
                  · replace c44 := Bool.eq_false_iff.mpr c44
                    subst c44
                    have H1 : ((perm_Rank.f kj24 l1).bind fun bt327 => ((perm_Compare.f kj24 l0 l1).bind fun bt329 => (if bt327.2 = 0 then (if bt329.2 = 0 then (if ((decide (bt329.1 < 0)) == (decide (t308 < bt327.1))) = true then (if ((bt329.1 == 0) == (t308 == bt327.1)) = true then ((galoisref22_Same.f kj24 l0 l1).bind fun t331 => (some ((bt329.1 == 0) == t331))) else (some false)) else (some false)) else (some false)) else (some false)))) = some r := by rw [if_neg (show ¬ (false = true) by decide)] at H; exact H
                    clear H
                    have H := H1
                    clear H1
                    replace H := Option.bind_eq_some_iff.mp H
                    obtain ⟨⟨t327, t328⟩, A450, H⟩ := H
                    replace H : ((perm_Compare.f kj24 l0 l1).bind fun bt329 => (if t328 = 0 then (if bt329.2 = 0 then (if ((decide (bt329.1 < 0)) == (decide (t308 < t327))) = true then (if ((bt329.1 == 0) == (t308 == t327)) = true then ((galoisref22_Same.f kj24 l0 l1).bind fun t331 => (some ((bt329.1 == 0) == t331))) else (some false)) else (some false)) else (some false)) else (some false))) = some r := H
                    have A45 := Aside0.mk A450
                    clear A450
                    replace H := Option.bind_eq_some_iff.mp H
                    obtain ⟨⟨t329, t330⟩, A460, H⟩ := H
                    replace H : (if t328 = 0 then (if t330 = 0 then (if ((decide (t329 < 0)) == (decide (t308 < t327))) = true then (if ((t329 == 0) == (t308 == t327)) = true then ((galoisref22_Same.f kj24 l0 l1).bind fun t331 => (some ((t329 == 0) == t331))) else (some false)) else (some false)) else (some false)) else (some false)) = some r := H
                    have A46 := Aside0.mk A460
                    clear A460
                    by_cases c47 : t328 = 0
                    · rw [if_pos c47] at H
                      have c47b0 : (t328 == 0) = true := beq_iff_eq.mpr c47
                      have c47b1 : (t328 != 0) = false := bne_eq_false_iff_eq.mpr c47
                      clear c47
                      by_cases c48 : t330 = 0
                      · rw [if_pos c48] at H
                        have c48b0 : (t330 == 0) = true := beq_iff_eq.mpr c48
                        have c48b1 : (t330 != 0) = false := bne_eq_false_iff_eq.mpr c48
                        clear c48
                        by_cases c49 : ((decide (t329 < 0)) == (decide (t308 < t327))) = true
                        · rw [if_pos c49] at H
                          have c49b0 : ((decide (t329 < 0)) == (decide (t308 < t327))) = true := c49
                          (try (have c49b1 : decide ((decide (t329 < 0)) = (decide (t308 < t327))) = true := by simpa using c49))
                          (try (have c49b2 : ((decide (t329 < 0)) == (decide (t308 < t327))) = true := by simpa using c49))
                          clear c49
                          by_cases c50 : ((t329 == 0) == (t308 == t327)) = true
                          · rw [if_pos c50] at H
                            have c50b0 : ((t329 == 0) == (t308 == t327)) = true := c50
                            (try (have c50b1 : decide ((t329 == 0) = (t308 == t327)) = true := by simpa using c50))
                            (try (have c50b2 : ((t329 == 0) == (t308 == t327)) = true := by simpa using c50))
                            clear c50
                            replace H := Option.bind_eq_some_iff.mp H
                            obtain ⟨t331, A510, H⟩ := H
                            replace H : (some ((t329 == 0) == t331)) = some r := H
                            have A51 := Aside0.mk A510
                            clear A510
                            obtain rfl := Option.some.inj H
                            go_wp2_with (first | ((with_reducible refine gate_callee (f := 26) rfl ?_); refine goesL_ (some 101) rfl rfl Tryd.func26 (by kernel_rfl) rfl #[.slice A1 l1.length c1] rfl (by (try simp only [List.map_toArray, List.map_cons, List.map_nil]); first | done | rfl | (simp only [List.length_drop, List.length_take]; rfl)) ?_; (with_reducible refine (perm_Rank.calls kj24 _ _ l1 t327 t328 _ ?side1 ?side2 A45.out).mono ?_); (case side1 => repeat (first | exact (Kd.C_below HR1.out HB.out) | (with_reducible refine Kd.C_alloc ?_ _) | (with_reducible refine Kd.C_drewN ?_ _) | (with_reducible refine Kd.C_drew ?_))); (case side2 => exact HC1.out); rintro e w' ⟨rfl, ⟨nd, rfl⟩⟩; refine ⟨_, rfl, ?_⟩) | ((with_reducible refine gate_callee (f := 30) rfl ?_); refine goesL_ (some 107) rfl rfl Tryd.func30 (by kernel_rfl) rfl #[.slice A0 l0.length c0, .slice A1 l1.length c1] rfl (by (try simp only [List.map_toArray, List.map_cons, List.map_nil]); first | done | rfl | (simp only [List.length_drop, List.length_take]; rfl)) ?_; (with_reducible refine (perm_Compare.calls kj24 _ _ l0 _ _ l1 t329 t330 _ ?side1 ?side2 ?side3 ?side4 A46.out).mono ?_); (case side1 => repeat (first | exact (Kd.C_below HR0.out (by repeat (first | (with_reducible first | exact HB.out | apply below_alloc | apply pw_below_drewN | apply below_drew1) | exact HB.out))) | (with_reducible refine Kd.C_alloc ?_ _) | (with_reducible refine Kd.C_drewN ?_ _) | (with_reducible refine Kd.C_drew ?_))); (case side2 => exact HC0.out); (case side3 => repeat (first | exact (Kd.C_below HR1.out (by repeat (first | (with_reducible first | exact HB.out | apply below_alloc | apply pw_below_drewN | apply below_drew1) | exact HB.out))) | (with_reducible refine Kd.C_alloc ?_ _) | (with_reducible refine Kd.C_drewN ?_ _) | (with_reducible refine Kd.C_drew ?_))); (case side4 => exact HC1.out); rintro e w' ⟨rfl, ⟨nd, rfl⟩⟩; refine ⟨_, rfl, ?_⟩) | (go_at_call 19; (with_reducible refine (galoisref22_Same.calls kj24 _ _ l0 _ _ l1 t331 _ ?side1 ?side2 ?side3 ?side4 A51.out).mono ?_); (case side1 => repeat (first | exact (Kd.C_below HR0.out (by repeat (first | (with_reducible first | exact HB.out | apply below_alloc | apply pw_below_drewN | apply below_drew1) | exact HB.out))) | (with_reducible refine Kd.C_alloc ?_ _) | (with_reducible refine Kd.C_drewN ?_ _) | (with_reducible refine Kd.C_drew ?_))); (case side2 => exact HC0.out); (case side3 => repeat (first | exact (Kd.C_below HR1.out (by repeat (first | (with_reducible first | exact HB.out | apply below_alloc | apply pw_below_drewN | apply below_drew1) | exact HB.out))) | (with_reducible refine Kd.C_alloc ?_ _) | (with_reducible refine Kd.C_drewN ?_ _) | (with_reducible refine Kd.C_drew ?_))); (case side4 => exact HC1.out); rintro e w' ⟨rfl, ⟨nd, rfl⟩⟩))
                            go_ret
                            exact ⟨by first | rfl | (simp [errW_none, errW_some] <;> rfl) | (simp [*, errW_none, errW_some] <;> rfl), by repeat (first | (with_reducible first | exact HB.out | apply below_alloc | apply pw_below_drewN | apply below_drew1) | exact HB.out)⟩
                          · rw [if_neg c50] at H
                            have c50b0 : ((t329 == 0) == (t308 == t327)) = false := by simpa using c50
                            (try (have c50b1 : decide ((t329 == 0) = (t308 == t327)) = false := by simpa using c50))
                            (try (have c50b2 : ((t329 == 0) == (t308 == t327)) = false := by simpa using c50))
                            (try (have c50b3 : ¬ ((t329 == 0) = (t308 == t327)) := by simpa using c50))
                            clear c50
                            obtain rfl := Option.some.inj H
                            go_wp2_with (first | ((with_reducible refine gate_callee (f := 26) rfl ?_); refine goesL_ (some 101) rfl rfl Tryd.func26 (by kernel_rfl) rfl #[.slice A1 l1.length c1] rfl (by (try simp only [List.map_toArray, List.map_cons, List.map_nil]); first | done | rfl | (simp only [List.length_drop, List.length_take]; rfl)) ?_; (with_reducible refine (perm_Rank.calls kj24 _ _ l1 t327 t328 _ ?side1 ?side2 A45.out).mono ?_); (case side1 => repeat (first | exact (Kd.C_below HR1.out HB.out) | (with_reducible refine Kd.C_alloc ?_ _) | (with_reducible refine Kd.C_drewN ?_ _) | (with_reducible refine Kd.C_drew ?_))); (case side2 => exact HC1.out); rintro e w' ⟨rfl, ⟨nd, rfl⟩⟩; refine ⟨_, rfl, ?_⟩) | ((with_reducible refine gate_callee (f := 30) rfl ?_); refine goesL_ (some 107) rfl rfl Tryd.func30 (by kernel_rfl) rfl #[.slice A0 l0.length c0, .slice A1 l1.length c1] rfl (by (try simp only [List.map_toArray, List.map_cons, List.map_nil]); first | done | rfl | (simp only [List.length_drop, List.length_take]; rfl)) ?_; (with_reducible refine (perm_Compare.calls kj24 _ _ l0 _ _ l1 t329 t330 _ ?side1 ?side2 ?side3 ?side4 A46.out).mono ?_); (case side1 => repeat (first | exact (Kd.C_below HR0.out (by repeat (first | (with_reducible first | exact HB.out | apply below_alloc | apply pw_below_drewN | apply below_drew1) | exact HB.out))) | (with_reducible refine Kd.C_alloc ?_ _) | (with_reducible refine Kd.C_drewN ?_ _) | (with_reducible refine Kd.C_drew ?_))); (case side2 => exact HC0.out); (case side3 => repeat (first | exact (Kd.C_below HR1.out (by repeat (first | (with_reducible first | exact HB.out | apply below_alloc | apply pw_below_drewN | apply below_drew1) | exact HB.out))) | (with_reducible refine Kd.C_alloc ?_ _) | (with_reducible refine Kd.C_drewN ?_ _) | (with_reducible refine Kd.C_drew ?_))); (case side4 => exact HC1.out); rintro e w' ⟨rfl, ⟨nd, rfl⟩⟩; refine ⟨_, rfl, ?_⟩))
                            go_ret
                            exact ⟨by first | rfl | (simp [errW_none, errW_some] <;> rfl) | (simp [*, errW_none, errW_some] <;> rfl), by repeat (first | (with_reducible first | exact HB.out | apply below_alloc | apply pw_below_drewN | apply below_drew1) | exact HB.out)⟩
                        · rw [if_neg c49] at H
                          have c49b0 : ((decide (t329 < 0)) == (decide (t308 < t327))) = false := by simpa using c49
                          (try (have c49b1 : decide ((decide (t329 < 0)) = (decide (t308 < t327))) = false := by simpa using c49))
                          (try (have c49b2 : ((decide (t329 < 0)) == (decide (t308 < t327))) = false := by simpa using c49))
                          (try (have c49b3 : ¬ ((decide (t329 < 0)) = (decide (t308 < t327))) := by simpa using c49))
                          clear c49
                          obtain rfl := Option.some.inj H
                          go_wp2_with (first | ((with_reducible refine gate_callee (f := 26) rfl ?_); refine goesL_ (some 101) rfl rfl Tryd.func26 (by kernel_rfl) rfl #[.slice A1 l1.length c1] rfl (by (try simp only [List.map_toArray, List.map_cons, List.map_nil]); first | done | rfl | (simp only [List.length_drop, List.length_take]; rfl)) ?_; (with_reducible refine (perm_Rank.calls kj24 _ _ l1 t327 t328 _ ?side1 ?side2 A45.out).mono ?_); (case side1 => repeat (first | exact (Kd.C_below HR1.out HB.out) | (with_reducible refine Kd.C_alloc ?_ _) | (with_reducible refine Kd.C_drewN ?_ _) | (with_reducible refine Kd.C_drew ?_))); (case side2 => exact HC1.out); rintro e w' ⟨rfl, ⟨nd, rfl⟩⟩; refine ⟨_, rfl, ?_⟩) | ((with_reducible refine gate_callee (f := 30) rfl ?_); refine goesL_ (some 107) rfl rfl Tryd.func30 (by kernel_rfl) rfl #[.slice A0 l0.length c0, .slice A1 l1.length c1] rfl (by (try simp only [List.map_toArray, List.map_cons, List.map_nil]); first | done | rfl | (simp only [List.length_drop, List.length_take]; rfl)) ?_; (with_reducible refine (perm_Compare.calls kj24 _ _ l0 _ _ l1 t329 t330 _ ?side1 ?side2 ?side3 ?side4 A46.out).mono ?_); (case side1 => repeat (first | exact (Kd.C_below HR0.out (by repeat (first | (with_reducible first | exact HB.out | apply below_alloc | apply pw_below_drewN | apply below_drew1) | exact HB.out))) | (with_reducible refine Kd.C_alloc ?_ _) | (with_reducible refine Kd.C_drewN ?_ _) | (with_reducible refine Kd.C_drew ?_))); (case side2 => exact HC0.out); (case side3 => repeat (first | exact (Kd.C_below HR1.out (by repeat (first | (with_reducible first | exact HB.out | apply below_alloc | apply pw_below_drewN | apply below_drew1) | exact HB.out))) | (with_reducible refine Kd.C_alloc ?_ _) | (with_reducible refine Kd.C_drewN ?_ _) | (with_reducible refine Kd.C_drew ?_))); (case side4 => exact HC1.out); rintro e w' ⟨rfl, ⟨nd, rfl⟩⟩; refine ⟨_, rfl, ?_⟩))
                          go_ret
                          exact ⟨by first | rfl | (simp [errW_none, errW_some] <;> rfl) | (simp [*, errW_none, errW_some] <;> rfl), by repeat (first | (with_reducible first | exact HB.out | apply below_alloc | apply pw_below_drewN | apply below_drew1) | exact HB.out)⟩
                      · rw [if_neg c48] at H
                        have c48b0 : (t330 == 0) = false := beq_eq_false_iff_ne.mpr c48
                        have c48b1 : (t330 != 0) = true := bne_iff_ne.mpr c48
                        obtain rfl := Option.some.inj H
                        go_wp2_with (first | ((with_reducible refine gate_callee (f := 26) rfl ?_); refine goesL_ (some 101) rfl rfl Tryd.func26 (by kernel_rfl) rfl #[.slice A1 l1.length c1] rfl (by (try simp only [List.map_toArray, List.map_cons, List.map_nil]); first | done | rfl | (simp only [List.length_drop, List.length_take]; rfl)) ?_; (with_reducible refine (perm_Rank.calls kj24 _ _ l1 t327 t328 _ ?side1 ?side2 A45.out).mono ?_); (case side1 => repeat (first | exact (Kd.C_below HR1.out HB.out) | (with_reducible refine Kd.C_alloc ?_ _) | (with_reducible refine Kd.C_drewN ?_ _) | (with_reducible refine Kd.C_drew ?_))); (case side2 => exact HC1.out); rintro e w' ⟨rfl, ⟨nd, rfl⟩⟩; refine ⟨_, rfl, ?_⟩) | ((with_reducible refine gate_callee (f := 30) rfl ?_); refine goesL_ (some 107) rfl rfl Tryd.func30 (by kernel_rfl) rfl #[.slice A0 l0.length c0, .slice A1 l1.length c1] rfl (by (try simp only [List.map_toArray, List.map_cons, List.map_nil]); first | done | rfl | (simp only [List.length_drop, List.length_take]; rfl)) ?_; (with_reducible refine (perm_Compare.calls kj24 _ _ l0 _ _ l1 t329 t330 _ ?side1 ?side2 ?side3 ?side4 A46.out).mono ?_); (case side1 => repeat (first | exact (Kd.C_below HR0.out (by repeat (first | (with_reducible first | exact HB.out | apply below_alloc | apply pw_below_drewN | apply below_drew1) | exact HB.out))) | (with_reducible refine Kd.C_alloc ?_ _) | (with_reducible refine Kd.C_drewN ?_ _) | (with_reducible refine Kd.C_drew ?_))); (case side2 => exact HC0.out); (case side3 => repeat (first | exact (Kd.C_below HR1.out (by repeat (first | (with_reducible first | exact HB.out | apply below_alloc | apply pw_below_drewN | apply below_drew1) | exact HB.out))) | (with_reducible refine Kd.C_alloc ?_ _) | (with_reducible refine Kd.C_drewN ?_ _) | (with_reducible refine Kd.C_drew ?_))); (case side4 => exact HC1.out); rintro e w' ⟨rfl, ⟨nd, rfl⟩⟩; refine ⟨_, rfl, ?_⟩))
                        go_ret
                        exact ⟨by first | rfl | (simp [errW_none, errW_some] <;> rfl) | (simp [*, errW_none, errW_some] <;> rfl), by repeat (first | (with_reducible first | exact HB.out | apply below_alloc | apply pw_below_drewN | apply below_drew1) | exact HB.out)⟩
                    · rw [if_neg c47] at H
                      have c47b0 : (t328 == 0) = false := beq_eq_false_iff_ne.mpr c47
                      have c47b1 : (t328 != 0) = true := bne_iff_ne.mpr c47
                      obtain rfl := Option.some.inj H
                      go_wp2_with (first | ((with_reducible refine gate_callee (f := 26) rfl ?_); refine goesL_ (some 101) rfl rfl Tryd.func26 (by kernel_rfl) rfl #[.slice A1 l1.length c1] rfl (by (try simp only [List.map_toArray, List.map_cons, List.map_nil]); first | done | rfl | (simp only [List.length_drop, List.length_take]; rfl)) ?_; (with_reducible refine (perm_Rank.calls kj24 _ _ l1 t327 t328 _ ?side1 ?side2 A45.out).mono ?_); (case side1 => repeat (first | exact (Kd.C_below HR1.out HB.out) | (with_reducible refine Kd.C_alloc ?_ _) | (with_reducible refine Kd.C_drewN ?_ _) | (with_reducible refine Kd.C_drew ?_))); (case side2 => exact HC1.out); rintro e w' ⟨rfl, ⟨nd, rfl⟩⟩; refine ⟨_, rfl, ?_⟩) | ((with_reducible refine gate_callee (f := 30) rfl ?_); refine goesL_ (some 107) rfl rfl Tryd.func30 (by kernel_rfl) rfl #[.slice A0 l0.length c0, .slice A1 l1.length c1] rfl (by (try simp only [List.map_toArray, List.map_cons, List.map_nil]); first | done | rfl | (simp only [List.length_drop, List.length_take]; rfl)) ?_; (with_reducible refine (perm_Compare.calls kj24 _ _ l0 _ _ l1 t329 t330 _ ?side1 ?side2 ?side3 ?side4 A46.out).mono ?_); (case side1 => repeat (first | exact (Kd.C_below HR0.out (by repeat (first | (with_reducible first | exact HB.out | apply below_alloc | apply pw_below_drewN | apply below_drew1) | exact HB.out))) | (with_reducible refine Kd.C_alloc ?_ _) | (with_reducible refine Kd.C_drewN ?_ _) | (with_reducible refine Kd.C_drew ?_))); (case side2 => exact HC0.out); (case side3 => repeat (first | exact (Kd.C_below HR1.out (by repeat (first | (with_reducible first | exact HB.out | apply below_alloc | apply pw_below_drewN | apply below_drew1) | exact HB.out))) | (with_reducible refine Kd.C_alloc ?_ _) | (with_reducible refine Kd.C_drewN ?_ _) | (with_reducible refine Kd.C_drew ?_))); (case side4 => exact HC1.out); rintro e w' ⟨rfl, ⟨nd, rfl⟩⟩; refine ⟨_, rfl, ?_⟩))
                      go_ret
                      exact ⟨by first | rfl | (simp [errW_none, errW_some] <;> rfl) | (simp [*, errW_none, errW_some] <;> rfl), by repeat (first | (with_reducible first | exact HB.out | apply below_alloc | apply pw_below_drewN | apply below_drew1) | exact HB.out)⟩

/-- THE ONE PURE STATEMENT of galoislaw22_PermBack: yours. -/
def galoislaw22_PermBack.Pure : Prop := ∀ (l0 : List Int) (l1 : List Int), l0.length ≤ maxLen → l0.length * 8 ≤ 140737488351232 → (∀ x ∈ l0, (Lit.int .i64 x).wf = true) → l1.length ≤ maxLen → l1.length * 8 ≤ 140737488351232 → (∀ x ∈ l1, (Lit.int .i64 x).wf = true) → ∃ k, galoislaw22_PermBack.f k l0 l1 = some true
theorem galoislaw22_PermBack.walk (P : galoislaw22_PermBack.Pure) (a0 : Option Addr) (len0 cap0 : Nat) (z0 : List Int) (a1 : Option Addr) (len1 cap1 : Nat) (z1 : List Int) (w : World) (w0 : (a0 = none ∧ len0 = 0 ∧ cap0 = 0 ∧ z0 = []) ∨ ∃ x, a0 = some x ∧ len0 ≤ cap0 ∧ cap0 ≤ maxLen ∧ z0.length = cap0 ∧ (∀ i, i < z0.length → w.cell? (x.add i) = some (.int .i64 (z0.getD i 0))) ∧ ∀ n ∈ z0, (Lit.int .i64 n).wf = true) (y0 : len0 * 8 ≤ 140737488351232) (w1 : (a1 = none ∧ len1 = 0 ∧ cap1 = 0 ∧ z1 = []) ∨ ∃ x, a1 = some x ∧ len1 ≤ cap1 ∧ cap1 ≤ maxLen ∧ z1.length = cap1 ∧ (∀ i, i < z1.length → w.cell? (x.add i) = some (.int .i64 (z1.getD i 0))) ∧ ∀ n ∈ z1, (Lit.int .i64 n).wf = true) (y1 : len1 * 8 ≤ 140737488351232) :
    Calls Tryd.prog 11 #[.slice a0 len0 cap0, .slice a1 len1 cap1] w fun e w' => e = .returned (.bool true) ∧ Below w.heap.size w w' := by
  obtain ⟨l0, rfl, hr0, hm0, hw0, hc0⟩ := ReadsInt.ofRowC w0
  obtain ⟨l1, rfl, hr1, hm1, hw1, hc1⟩ := ReadsInt.ofRowC w1
  obtain ⟨k, h⟩ := P l0 l1 hm0 y0 hw0 hm1 y1 hw1
  refine (galoislaw22_PermBack.calls k _ _ l0 _ _ l1 true w (Kd.C_of_reads (d := (0 : Int)) (h1 := fun _ => rfl) hr0) hc0 (Kd.C_of_reads (d := (0 : Int)) (h1 := fun _ => rfl) hr1) hc1 h).mono ?_
  rintro e w' ⟨rfl, hd⟩
  exact ⟨rfl, hd⟩

end Go.Proofs.YtoaalfpfklchfaaDoor.PPermBack
