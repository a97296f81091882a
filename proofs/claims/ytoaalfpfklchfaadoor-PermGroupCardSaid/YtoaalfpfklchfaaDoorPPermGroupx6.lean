-- Printed by wip/tools/mk.py of this repo (the kit's print with turns made in memory).
import Derived.Test.YtoaalfpfklchfaaDoorPPermGroupx0
import Derived.Test.YtoaalfpfklchfaaDoorPPermGroupx1
import Derived.Test.YtoaalfpfklchfaaDoorPPermGroupx2
import Derived.Test.YtoaalfpfklchfaaDoorPPermGroupx4
import Derived.Test.YtoaalfpfklchfaaDoorPPermGroupx5
namespace Go.Proofs.YtoaalfpfklchfaaDoor.PPermGroup
open Go.RowKit Go.Proofs.YtoaalfpfklchfaaDoorW.PrintWords Go.Proofs.YtoaalfpfklchfaaDoorW.PrintLast Go.Proofs.YtoaalfpfklchfaaDoorW.PrintMore
attribute [local go_sem] max2_int min2_int max_two min_two max_three min_three max_four min_four   -- for this text's walks alone
set_option linter.unusedVariables false
set_option linter.unusedSimpArgs false

/-! ### galoislaw22_PermGroup: function 9 -/
mutual
def galoislaw22_PermGroup.j0 : Nat → List Int → List Int → List Int → Bool → Option (Bool)
  | 0, _, _, _, _ => none
  | k + 1, x0, x1, x2, x45 => if x45 = true then ((galoislaw22_awake.f k).bind fun t253 => (some t253)) else ((perm_Mul.f k x0 x1).bind fun bt254 => ((perm_Mul.f k x1 x2).bind fun bt258 => ((perm_Mul.f k bt254.1 x2).bind fun bt262 => ((perm_Mul.f k x0 bt258.1).bind fun bt266 => ((perm_Inverse.f k bt254.1).bind fun bt270 => ((perm_Inverse.f k x0).bind fun bt274 => ((perm_Inverse.f k x1).bind fun bt278 => ((perm_Mul.f k bt278.1 bt274.1).bind fun bt282 => (if bt254.2 = 0 then (if bt258.2 = 0 then (if bt262.2 = 0 then (if bt266.2 = 0 then (if bt270.2 = 0 then (if bt274.2 = 0 then (if bt278.2 = 0 then (if bt282.2 = 0 then ((galoisref22_Same.f k bt262.1 bt266.1).bind fun t286 => (if t286 = true then ((galoisref22_Same.f k bt270.1 bt282.1).bind fun t287 => (galoislaw22_PermGroup.j1 k x0 x1 x2 bt254.1 (!t287))) else (galoislaw22_PermGroup.j1 k x0 x1 x2 bt254.1 true))) else (galoislaw22_PermGroup.j1 k x0 x1 x2 bt254.1 true)) else (galoislaw22_PermGroup.j1 k x0 x1 x2 bt254.1 true)) else (galoislaw22_PermGroup.j1 k x0 x1 x2 bt254.1 true)) else (galoislaw22_PermGroup.j1 k x0 x1 x2 bt254.1 true)) else (galoislaw22_PermGroup.j1 k x0 x1 x2 bt254.1 true)) else (galoislaw22_PermGroup.j1 k x0 x1 x2 bt254.1 true)) else (galoislaw22_PermGroup.j1 k x0 x1 x2 bt254.1 true)) else (galoislaw22_PermGroup.j1 k x0 x1 x2 bt254.1 true))))))))))
def galoislaw22_PermGroup.j1 : Nat → List Int → List Int → List Int → List Int → Bool → Option (Bool)
  | 0, _, _, _, _, _ => none
  | k + 1, x0, x1, x2, x7, x133 => if x133 = true then (some false) else ((perm_Sign.f k x0).bind fun bt288 => ((perm_Sign.f k x1).bind fun bt290 => ((perm_Sign.f k x7).bind fun bt292 => ((perm_Conjugate.f k x0 x2).bind fun bt294 => ((perm_Conjugate.f k x1 x2).bind fun bt298 => ((perm_Conjugate.f k x7 x2).bind fun bt302 => ((perm_Mul.f k bt294.1 bt298.1).bind fun bt306 => (if bt288.2 = 0 then (if bt290.2 = 0 then (if bt292.2 = 0 then (if bt294.2 = 0 then (if bt298.2 = 0 then (if bt302.2 = 0 then (if bt306.2 = 0 then (if bt292.1 = (wrap64 (bt288.1 * bt290.1)) then ((galoisref22_Same.f k bt302.1 bt306.1).bind fun t310 => (galoislaw22_PermGroup.j2 k x0 bt294.1 (!t310))) else (galoislaw22_PermGroup.j2 k x0 bt294.1 true)) else (galoislaw22_PermGroup.j2 k x0 bt294.1 true)) else (galoislaw22_PermGroup.j2 k x0 bt294.1 true)) else (galoislaw22_PermGroup.j2 k x0 bt294.1 true)) else (galoislaw22_PermGroup.j2 k x0 bt294.1 true)) else (galoislaw22_PermGroup.j2 k x0 bt294.1 true)) else (galoislaw22_PermGroup.j2 k x0 bt294.1 true)) else (galoislaw22_PermGroup.j2 k x0 bt294.1 true)))))))))
def galoislaw22_PermGroup.j2 : Nat → List Int → List Int → Bool → Option (Bool)
  | 0, _, _, _ => none
  | k + 1, x0, x26, x211 => if x211 = true then (some false) else ((perm_Type.f k x0).bind fun bt311 => ((perm_Type.f k x26).bind fun bt315 => (if bt311.2 = 0 then (if bt315.2 = 0 then ((galoisref22_Same.f k bt311.1 bt315.1).bind fun t319 => (some t319)) else (some false)) else (some false))))
end
def galoislaw22_PermGroup.f (k : Nat) (l0 : List Int) (l1 : List Int) (l2 : List Int) : Option (Bool) := (galoislaw22_awake.f k).bind fun t250 => (if t250 = true then ((galoislaw22_right.f k l0 l1).bind fun t251 => (if t251 = true then ((galoislaw22_right.f k l1 l2).bind fun t252 => (galoislaw22_PermGroup.j0 k l0 l1 l2 (!t252))) else (galoislaw22_PermGroup.j0 k l0 l1 l2 true))) else (galoislaw22_PermGroup.j0 k l0 l1 l2 true))
theorem galoislaw22_PermGroup.mono_l : ∀ k, (∀ y0 y1 y2 y3, LeO (galoislaw22_PermGroup.j0 k y0 y1 y2 y3) (galoislaw22_PermGroup.j0 (k + 1) y0 y1 y2 y3)) ∧ (∀ y0 y1 y2 y3 y4, LeO (galoislaw22_PermGroup.j1 k y0 y1 y2 y3 y4) (galoislaw22_PermGroup.j1 (k + 1) y0 y1 y2 y3 y4)) ∧ (∀ y0 y1 y2, LeO (galoislaw22_PermGroup.j2 k y0 y1 y2) (galoislaw22_PermGroup.j2 (k + 1) y0 y1 y2))
  | 0 => ⟨fun _ _ _ _ r h => by simp [galoislaw22_PermGroup.j0] at h, fun _ _ _ _ _ r h => by simp [galoislaw22_PermGroup.j1] at h, fun _ _ _ r h => by simp [galoislaw22_PermGroup.j2] at h⟩
  | k + 1 => by
    obtain ⟨ih0, ih1, ih2⟩ := galoislaw22_PermGroup.mono_l k
    refine ⟨?_, ?_, ?_⟩
    · intro y0 y1 y2 y3
      unfold galoislaw22_PermGroup.j0
      repeat' first
      | (with_reducible exact ih0 _ _ _ _)
      | (with_reducible exact ih1 _ _ _ _ _)
      | (with_reducible exact ih2 _ _ _)
      | (with_reducible exact galoislaw22_awake.mono _)
      | (with_reducible exact galoislaw22_right.mono _ _ _)
      | (with_reducible exact galoisref22_Same.mono _ _ _)
      | (with_reducible exact perm_Conjugate.mono _ _ _)
      | (with_reducible exact perm_Inverse.mono _ _)
      | (with_reducible exact perm_Mul.mono _ _ _)
      | (with_reducible exact perm_Sign.mono _ _)
      | (with_reducible exact perm_Type.mono _ _)
      | (with_reducible exact LeO.refl _)
      | (with_reducible exact LeO.none _)
      | (with_reducible refine LeO.ite ?_ ?_)
      | (with_reducible refine LeO.bind ?_ (fun _ => ?_))
      | exact ih0 _ _ _ _
      | exact ih1 _ _ _ _ _
      | exact ih2 _ _ _
      | exact galoislaw22_awake.mono _
      | exact galoislaw22_right.mono _ _ _
      | exact galoisref22_Same.mono _ _ _
      | exact perm_Conjugate.mono _ _ _
      | exact perm_Inverse.mono _ _
      | exact perm_Mul.mono _ _ _
      | exact perm_Sign.mono _ _
      | exact perm_Type.mono _ _
      | exact LeO.none _
      | refine LeO.ite ?_ ?_
      | refine LeO.bind ?_ (fun _ => ?_)
    · intro y0 y1 y2 y3 y4
      unfold galoislaw22_PermGroup.j1
      repeat' first
      | (with_reducible exact ih0 _ _ _ _)
      | (with_reducible exact ih1 _ _ _ _ _)
      | (with_reducible exact ih2 _ _ _)
      | (with_reducible exact galoislaw22_awake.mono _)
      | (with_reducible exact galoislaw22_right.mono _ _ _)
      | (with_reducible exact galoisref22_Same.mono _ _ _)
      | (with_reducible exact perm_Conjugate.mono _ _ _)
      | (with_reducible exact perm_Inverse.mono _ _)
      | (with_reducible exact perm_Mul.mono _ _ _)
      | (with_reducible exact perm_Sign.mono _ _)
      | (with_reducible exact perm_Type.mono _ _)
      | (with_reducible exact LeO.refl _)
      | (with_reducible exact LeO.none _)
      | (with_reducible refine LeO.ite ?_ ?_)
      | (with_reducible refine LeO.bind ?_ (fun _ => ?_))
      | exact ih0 _ _ _ _
      | exact ih1 _ _ _ _ _
      | exact ih2 _ _ _
      | exact galoislaw22_awake.mono _
      | exact galoislaw22_right.mono _ _ _
      | exact galoisref22_Same.mono _ _ _
      | exact perm_Conjugate.mono _ _ _
      | exact perm_Inverse.mono _ _
      | exact perm_Mul.mono _ _ _
      | exact perm_Sign.mono _ _
      | exact perm_Type.mono _ _
      | exact LeO.none _
      | refine LeO.ite ?_ ?_
      | refine LeO.bind ?_ (fun _ => ?_)
    · intro y0 y1 y2
      unfold galoislaw22_PermGroup.j2
      repeat' first
      | (with_reducible exact ih0 _ _ _ _)
      | (with_reducible exact ih1 _ _ _ _ _)
      | (with_reducible exact ih2 _ _ _)
      | (with_reducible exact galoislaw22_awake.mono _)
      | (with_reducible exact galoislaw22_right.mono _ _ _)
      | (with_reducible exact galoisref22_Same.mono _ _ _)
      | (with_reducible exact perm_Conjugate.mono _ _ _)
      | (with_reducible exact perm_Inverse.mono _ _)
      | (with_reducible exact perm_Mul.mono _ _ _)
      | (with_reducible exact perm_Sign.mono _ _)
      | (with_reducible exact perm_Type.mono _ _)
      | (with_reducible exact LeO.refl _)
      | (with_reducible exact LeO.none _)
      | (with_reducible refine LeO.ite ?_ ?_)
      | (with_reducible refine LeO.bind ?_ (fun _ => ?_))
      | exact ih0 _ _ _ _
      | exact ih1 _ _ _ _ _
      | exact ih2 _ _ _
      | exact galoislaw22_awake.mono _
      | exact galoislaw22_right.mono _ _ _
      | exact galoisref22_Same.mono _ _ _
      | exact perm_Conjugate.mono _ _ _
      | exact perm_Inverse.mono _ _
      | exact perm_Mul.mono _ _ _
      | exact perm_Sign.mono _ _
      | exact perm_Type.mono _ _
      | exact LeO.none _
      | refine LeO.ite ?_ ?_
      | refine LeO.bind ?_ (fun _ => ?_)
theorem galoislaw22_PermGroup.mono : ∀ a0 a1 a2 k, LeO (galoislaw22_PermGroup.f k a0 a1 a2) (galoislaw22_PermGroup.f (k + 1) a0 a1 a2) := by
  intro a0 a1 a2 k
  obtain ⟨ih0, ih1, ih2⟩ := galoislaw22_PermGroup.mono_l k
  unfold galoislaw22_PermGroup.f
  repeat' first
      | (with_reducible exact ih0 _ _ _ _)
      | (with_reducible exact ih1 _ _ _ _ _)
      | (with_reducible exact ih2 _ _ _)
      | (with_reducible exact galoislaw22_awake.mono _)
      | (with_reducible exact galoislaw22_right.mono _ _ _)
      | (with_reducible exact galoisref22_Same.mono _ _ _)
      | (with_reducible exact perm_Conjugate.mono _ _ _)
      | (with_reducible exact perm_Inverse.mono _ _)
      | (with_reducible exact perm_Mul.mono _ _ _)
      | (with_reducible exact perm_Sign.mono _ _)
      | (with_reducible exact perm_Type.mono _ _)
      | (with_reducible exact LeO.refl _)
      | (with_reducible exact LeO.none _)
      | (with_reducible refine LeO.ite ?_ ?_)
      | (with_reducible refine LeO.bind ?_ (fun _ => ?_))
      | exact ih0 _ _ _ _
      | exact ih1 _ _ _ _ _
      | exact ih2 _ _ _
      | exact galoislaw22_awake.mono _
      | exact galoislaw22_right.mono _ _ _
      | exact galoisref22_Same.mono _ _ _
      | exact perm_Conjugate.mono _ _ _
      | exact perm_Inverse.mono _ _
      | exact perm_Mul.mono _ _ _
      | exact perm_Sign.mono _ _
      | exact perm_Type.mono _ _
      | exact LeO.none _
      | refine LeO.ite ?_ ?_
      | refine LeO.bind ?_ (fun _ => ?_)
set_option maxHeartbeats 8000000 in
set_option maxRecDepth 100000 in
theorem galoislaw22_PermGroup.calls (k : Nat) (A0 : Option Addr) (c0 : Nat) (l0 : List Int) (A1 : Option Addr) (c1 : Nat) (l1 : List Int) (A2 : Option Addr) (c2 : Nat) (l2 : List Int) (r : Bool) (w : World) (hr0 : Kd.C (Kd.int .i64) w A0 l0.length l0) (hc0 : l0.length ≤ c0) (hr1 : Kd.C (Kd.int .i64) w A1 l1.length l1) (hc1 : l1.length ≤ c1) (hr2 : Kd.C (Kd.int .i64) w A2 l2.length l2) (hc2 : l2.length ≤ c2) (h : galoislaw22_PermGroup.f k l0 l1 l2 = some r) :
    Calls Tryd.prog 9 #[.slice A0 l0.length c0, .slice A1 l1.length c1, .slice A2 l2.length c2] w fun e w' => e = .returned (.bool r) ∧ Below w.heap.size w w' := by
  have HR0 := Aside0.mk hr0
  have HC0 := Aside0.mk hc0
  clear hr0 hc0
  have HR1 := Aside0.mk hr1
  have HC1 := Aside0.mk hc1
  clear hr1 hc1
  have HR2 := Aside0.mk hr2
  have HC2 := Aside0.mk hc2
  clear hr2 hc2
  have HB := Aside0.mk (Below.refl w.heap.size w)
  have H : ((galoislaw22_awake.f k).bind fun t250 => (if t250 = true then ((galoislaw22_right.f k l0 l1).bind fun t251 => (if t251 = true then ((galoislaw22_right.f k l1 l2).bind fun t252 => (galoislaw22_PermGroup.j0 k l0 l1 l2 (!t252))) else (galoislaw22_PermGroup.j0 k l0 l1 l2 true))) else (galoislaw22_PermGroup.j0 k l0 l1 l2 true))) = some r := h
  clear h
  have HC4 := Aside0.mk H
  clear H
  go_enter Tryd.func9, Tryd.ntmps9
  go_upto_region 1 with (fail)
  go_cut [45] (fun v45 wc => ∃ (kq : Nat) (x45_3 : Bool), v45 = .bool x45_3 ∧ Aside0 (galoislaw22_PermGroup.j0 kq l0 l1 l2 x45_3 = some r) ∧ Aside0 (kq ≤ k) ∧ Aside0 (Below w.heap.size w wc))
  case first =>
    have H := HC4.out
    clear HC4
    replace H := Option.bind_eq_some_iff.mp H
    obtain ⟨t250, A50, H⟩ := H
    replace H : (if t250 = true then ((galoislaw22_right.f k l0 l1).bind fun t251 => (if t251 = true then ((galoislaw22_right.f k l1 l2).bind fun t252 => (galoislaw22_PermGroup.j0 k l0 l1 l2 (!t252))) else (galoislaw22_PermGroup.j0 k l0 l1 l2 true))) else (galoislaw22_PermGroup.j0 k l0 l1 l2 true)) = some r := H
    have A5 := Aside0.mk A50
    clear A50
    by_cases c6 : t250 = true
    · subst c6
      have H1 : ((galoislaw22_right.f k l0 l1).bind fun t251 => (if t251 = true then ((galoislaw22_right.f k l1 l2).bind fun t252 => (galoislaw22_PermGroup.j0 k l0 l1 l2 (!t252))) else (galoislaw22_PermGroup.j0 k l0 l1 l2 true))) = some r := by rw [if_pos rfl] at H; exact H
      clear H
      have H := H1
      clear H1
      replace H := Option.bind_eq_some_iff.mp H
      obtain ⟨t251, A70, H⟩ := H
      replace H : (if t251 = true then ((galoislaw22_right.f k l1 l2).bind fun t252 => (galoislaw22_PermGroup.j0 k l0 l1 l2 (!t252))) else (galoislaw22_PermGroup.j0 k l0 l1 l2 true)) = some r := H
      have A7 := Aside0.mk A70
      clear A70
      by_cases c8 : t251 = true
      · subst c8
        have H1 : ((galoislaw22_right.f k l1 l2).bind fun t252 => (galoislaw22_PermGroup.j0 k l0 l1 l2 (!t252))) = some r := by rw [if_pos rfl] at H; exact H
        clear H
        have H := H1
        clear H1
        replace H := Option.bind_eq_some_iff.mp H
        obtain ⟨t252, A90, H⟩ := H
        replace H : (galoislaw22_PermGroup.j0 k l0 l1 l2 (!t252)) = some r := H
        have A9 := Aside0.mk A90
        clear A90
        have H' := Aside0.mk H
        clear H
        as_aux_lemma =>
          go_wp2_with (first | ((with_reducible refine gate_callee (f := 12) rfl ?_); refine goesL_ (some 32) rfl rfl Tryd.func12 (by kernel_rfl) rfl #[] rfl (by (try simp only [List.map_toArray, List.map_cons, List.map_nil]); first | done | rfl | (simp only [List.length_drop, List.length_take]; rfl)) ?_; (with_reducible refine (galoislaw22_awake.calls k  true _ A5.out).mono ?_); rintro e w10 ⟨rfl, hb⟩; refine ⟨_, rfl, ?_⟩; have n0_ := Aside0.mk (below_step (by repeat (first | (with_reducible first | exact HB.out | apply below_alloc | apply pw_below_drewN | apply below_drew1) | exact HB.out)) hb); clear HB; have HB := n0_; clear n0_; (try clear hb); (try clear hb2); (try clear hk); (try clear hi)) | (go_at_call 43; (with_reducible refine (galoislaw22_right.calls k (fun k_ => k_ < w.heap.size) _ _ l0 (fun k_ => k_ < w.heap.size) _ _ l1 true _ ?side1 ?side2 A7.out).mono ?_); (case side1 => exact Kd.V_mk HC0.out (Kd.F_below (Kd.C_F (Kd.heap_int .i64) HR0.out) (by repeat (first | (with_reducible first | exact HB.out | apply below_alloc | apply pw_below_drewN | apply below_drew1) | exact HB.out)))); (case side2 => exact Kd.V_mk HC1.out (Kd.F_below (Kd.C_F (Kd.heap_int .i64) HR1.out) (by repeat (first | (with_reducible first | exact HB.out | apply below_alloc | apply pw_below_drewN | apply below_drew1) | exact HB.out)))); rintro e w11 ⟨rfl, hb⟩; have n0_ := Aside0.mk (below_step (by repeat (first | (with_reducible first | exact HB.out | apply below_alloc | apply pw_below_drewN | apply below_drew1) | exact HB.out)) hb); clear HB; have HB := n0_; clear n0_; (try clear hb); (try clear hb2); (try clear hk); (try clear hi)) | (go_at_call 43; (with_reducible refine (galoislaw22_right.calls k (fun k_ => k_ < w.heap.size) _ _ l1 (fun k_ => k_ < w.heap.size) _ _ l2 t252 _ ?side1 ?side2 A9.out).mono ?_); (case side1 => exact Kd.V_mk HC1.out (Kd.F_below (Kd.C_F (Kd.heap_int .i64) HR1.out) (by repeat (first | (with_reducible first | exact HB.out | apply below_alloc | apply pw_below_drewN | apply below_drew1) | exact HB.out)))); (case side2 => exact Kd.V_mk HC2.out (Kd.F_below (Kd.C_F (Kd.heap_int .i64) HR2.out) (by repeat (first | (with_reducible first | exact HB.out | apply below_alloc | apply pw_below_drewN | apply below_drew1) | exact HB.out)))); rintro e w12 ⟨rfl, hb⟩; have n0_ := Aside0.mk (below_step (by repeat (first | (with_reducible first | exact HB.out | apply below_alloc | apply pw_below_drewN | apply below_drew1) | exact HB.out)) hb); clear HB; have HB := n0_; clear n0_; (try clear hb); (try clear hb2); (try clear hk); (try clear hi)))
          go_meet
          case rel => exact ⟨_, (!t252), (by first | rfl | (simp; done) | (simp [*]; done)), H', ⟨by first | omega | exact Nat.le_refl _⟩, ⟨by repeat (first | (with_reducible first | exact HB.out | apply below_alloc | apply pw_below_drewN | apply below_drew1) | exact HB.out)⟩⟩
      · replace c8 := Bool.eq_false_iff.mpr c8
        subst c8
        have H1 : (galoislaw22_PermGroup.j0 k l0 l1 l2 true) = some r := by rw [if_neg (show ¬ (false = true) by decide)] at H; exact H
        clear H
        have H := H1
        clear H1
        have H' := Aside0.mk H
        clear H
        as_aux_lemma =>
          go_wp2_with (first | ((with_reducible refine gate_callee (f := 12) rfl ?_); refine goesL_ (some 32) rfl rfl Tryd.func12 (by kernel_rfl) rfl #[] rfl (by (try simp only [List.map_toArray, List.map_cons, List.map_nil]); first | done | rfl | (simp only [List.length_drop, List.length_take]; rfl)) ?_; (with_reducible refine (galoislaw22_awake.calls k  true _ A5.out).mono ?_); rintro e w13 ⟨rfl, hb⟩; refine ⟨_, rfl, ?_⟩; have n0_ := Aside0.mk (below_step (by repeat (first | (with_reducible first | exact HB.out | apply below_alloc | apply pw_below_drewN | apply below_drew1) | exact HB.out)) hb); clear HB; have HB := n0_; clear n0_; (try clear hb); (try clear hb2); (try clear hk); (try clear hi)) | (go_at_call 43; (with_reducible refine (galoislaw22_right.calls k (fun k_ => k_ < w.heap.size) _ _ l0 (fun k_ => k_ < w.heap.size) _ _ l1 false _ ?side1 ?side2 A7.out).mono ?_); (case side1 => exact Kd.V_mk HC0.out (Kd.F_below (Kd.C_F (Kd.heap_int .i64) HR0.out) (by repeat (first | (with_reducible first | exact HB.out | apply below_alloc | apply pw_below_drewN | apply below_drew1) | exact HB.out)))); (case side2 => exact Kd.V_mk HC1.out (Kd.F_below (Kd.C_F (Kd.heap_int .i64) HR1.out) (by repeat (first | (with_reducible first | exact HB.out | apply below_alloc | apply pw_below_drewN | apply below_drew1) | exact HB.out)))); rintro e w14 ⟨rfl, hb⟩; have n0_ := Aside0.mk (below_step (by repeat (first | (with_reducible first | exact HB.out | apply below_alloc | apply pw_below_drewN | apply below_drew1) | exact HB.out)) hb); clear HB; have HB := n0_; clear n0_; (try clear hb); (try clear hb2); (try clear hk); (try clear hi)))
          go_meet
          case rel => exact ⟨_, (true), (by first | rfl | (simp; done) | (simp [*]; done)), H', ⟨by first | omega | exact Nat.le_refl _⟩, ⟨by repeat (first | (with_reducible first | exact HB.out | apply below_alloc | apply pw_below_drewN | apply below_drew1) | exact HB.out)⟩⟩
    · replace c6 := Bool.eq_false_iff.mpr c6
      subst c6
      have H1 : (galoislaw22_PermGroup.j0 k l0 l1 l2 true) = some r := by rw [if_neg (show ¬ (false = true) by decide)] at H; exact H
      clear H
      have H := H1
      clear H1
      have H' := Aside0.mk H
      clear H
      as_aux_lemma =>
        go_wp2_with (first | ((with_reducible refine gate_callee (f := 12) rfl ?_); refine goesL_ (some 32) rfl rfl Tryd.func12 (by kernel_rfl) rfl #[] rfl (by (try simp only [List.map_toArray, List.map_cons, List.map_nil]); first | done | rfl | (simp only [List.length_drop, List.length_take]; rfl)) ?_; (with_reducible refine (galoislaw22_awake.calls k  false _ A5.out).mono ?_); rintro e w15 ⟨rfl, hb⟩; refine ⟨_, rfl, ?_⟩; have n0_ := Aside0.mk (below_step (by repeat (first | (with_reducible first | exact HB.out | apply below_alloc | apply pw_below_drewN | apply below_drew1) | exact HB.out)) hb); clear HB; have HB := n0_; clear n0_; (try clear hb); (try clear hb2); (try clear hk); (try clear hi)))
        go_meet
        case rel => exact ⟨_, (true), (by first | rfl | (simp; done) | (simp [*]; done)), H', ⟨by first | omega | exact Nat.le_refl _⟩, ⟨by repeat (first | (with_reducible first | exact HB.out | apply below_alloc | apply pw_below_drewN | apply below_drew1) | exact HB.out)⟩⟩
  case rest =>
    clear HC4
    try clear c1
    try clear c2
    try clear p2
    try clear c6
    try clear c8
    try clear c9
    try clear c12
    obtain ⟨kq, x45_3, rfl, HA, HJ3, HB⟩ := hcut
    cases kq with
    | zero => exact absurd HA.out (by simp [galoislaw22_PermGroup.j0])
    | succ kj3 =>
      have H := HA.out
      clear HA
      simp only [galoislaw22_PermGroup.j0] at H
      by_cases c16 : x45_3 = true
      · subst c16
        have H1 : ((galoislaw22_awake.f kj3).bind fun t253 => (some t253)) = some r := by rw [if_pos rfl] at H; exact H
        clear H
        have H := H1
        clear H1
        replace H := Option.bind_eq_some_iff.mp H
        obtain ⟨t253, A170, H⟩ := H
        replace H : (some t253) = some r := H
        have A17 := Aside0.mk A170
        clear A170
        obtain rfl := Option.some.inj H
        as_aux_lemma =>
          go_wp2_with (first | ((with_reducible refine gate_callee (f := 12) rfl ?_); refine goesL_ (some 46) rfl rfl Tryd.func12 (by kernel_rfl) rfl #[] rfl (by (try simp only [List.map_toArray, List.map_cons, List.map_nil]); first | done | rfl | (simp only [List.length_drop, List.length_take]; rfl)) ?_; (with_reducible refine (galoislaw22_awake.calls kj3  t253 _ A17.out).mono ?_); rintro e w18 ⟨rfl, hb⟩; refine ⟨_, rfl, ?_⟩; have n0_ := Aside0.mk (below_step (by repeat (first | (with_reducible first | exact HB.out | apply below_alloc | apply pw_below_drewN | apply below_drew1) | exact HB.out)) hb); clear HB; have HB := n0_; clear n0_; (try clear hb); (try clear hb2); (try clear hk); (try clear hi)))
          go_ret
          exact ⟨by first | rfl | (simp [errW_none, errW_some] <;> rfl) | (simp [*, errW_none, errW_some] <;> rfl), by repeat (first | (with_reducible first | exact HB.out | apply below_alloc | apply pw_below_drewN | apply below_drew1) | exact HB.out)⟩
      · replace c16 := Bool.eq_false_iff.mpr c16
        subst c16
        have H1 : ((perm_Mul.f kj3 l0 l1).bind fun bt254 => ((perm_Mul.f kj3 l1 l2).bind fun bt258 => ((perm_Mul.f kj3 bt254.1 l2).bind fun bt262 => ((perm_Mul.f kj3 l0 bt258.1).bind fun bt266 => ((perm_Inverse.f kj3 bt254.1).bind fun bt270 => ((perm_Inverse.f kj3 l0).bind fun bt274 => ((perm_Inverse.f kj3 l1).bind fun bt278 => ((perm_Mul.f kj3 bt278.1 bt274.1).bind fun bt282 => (if bt254.2 = 0 then (if bt258.2 = 0 then (if bt262.2 = 0 then (if bt266.2 = 0 then (if bt270.2 = 0 then (if bt274.2 = 0 then (if bt278.2 = 0 then (if bt282.2 = 0 then ((galoisref22_Same.f kj3 bt262.1 bt266.1).bind fun t286 => (if t286 = true then ((galoisref22_Same.f kj3 bt270.1 bt282.1).bind fun t287 => (galoislaw22_PermGroup.j1 kj3 l0 l1 l2 bt254.1 (!t287))) else (galoislaw22_PermGroup.j1 kj3 l0 l1 l2 bt254.1 true))) else (galoislaw22_PermGroup.j1 kj3 l0 l1 l2 bt254.1 true)) else (galoislaw22_PermGroup.j1 kj3 l0 l1 l2 bt254.1 true)) else (galoislaw22_PermGroup.j1 kj3 l0 l1 l2 bt254.1 true)) else (galoislaw22_PermGroup.j1 kj3 l0 l1 l2 bt254.1 true)) else (galoislaw22_PermGroup.j1 kj3 l0 l1 l2 bt254.1 true)) else (galoislaw22_PermGroup.j1 kj3 l0 l1 l2 bt254.1 true)) else (galoislaw22_PermGroup.j1 kj3 l0 l1 l2 bt254.1 true)) else (galoislaw22_PermGroup.j1 kj3 l0 l1 l2 bt254.1 true)))))))))) = some r := by rw [if_neg (show ¬ (false = true) by decide)] at H; exact H
        clear H
        have H := H1
        clear H1
        replace H := Option.bind_eq_some_iff.mp H
        obtain ⟨⟨t254, t255⟩, A190, H⟩ := H
        replace H : ((perm_Mul.f kj3 l1 l2).bind fun bt258 => ((perm_Mul.f kj3 t254 l2).bind fun bt262 => ((perm_Mul.f kj3 l0 bt258.1).bind fun bt266 => ((perm_Inverse.f kj3 t254).bind fun bt270 => ((perm_Inverse.f kj3 l0).bind fun bt274 => ((perm_Inverse.f kj3 l1).bind fun bt278 => ((perm_Mul.f kj3 bt278.1 bt274.1).bind fun bt282 => (if t255 = 0 then (if bt258.2 = 0 then (if bt262.2 = 0 then (if bt266.2 = 0 then (if bt270.2 = 0 then (if bt274.2 = 0 then (if bt278.2 = 0 then (if bt282.2 = 0 then ((galoisref22_Same.f kj3 bt262.1 bt266.1).bind fun t286 => (if t286 = true then ((galoisref22_Same.f kj3 bt270.1 bt282.1).bind fun t287 => (galoislaw22_PermGroup.j1 kj3 l0 l1 l2 t254 (!t287))) else (galoislaw22_PermGroup.j1 kj3 l0 l1 l2 t254 true))) else (galoislaw22_PermGroup.j1 kj3 l0 l1 l2 t254 true)) else (galoislaw22_PermGroup.j1 kj3 l0 l1 l2 t254 true)) else (galoislaw22_PermGroup.j1 kj3 l0 l1 l2 t254 true)) else (galoislaw22_PermGroup.j1 kj3 l0 l1 l2 t254 true)) else (galoislaw22_PermGroup.j1 kj3 l0 l1 l2 t254 true)) else (galoislaw22_PermGroup.j1 kj3 l0 l1 l2 t254 true)) else (galoislaw22_PermGroup.j1 kj3 l0 l1 l2 t254 true)) else (galoislaw22_PermGroup.j1 kj3 l0 l1 l2 t254 true))))))))) = some r := H
        have A19 := Aside0.mk A190
        clear A190
        replace H := Option.bind_eq_some_iff.mp H
        obtain ⟨⟨t258, t259⟩, A200, H⟩ := H
        replace H : ((perm_Mul.f kj3 t254 l2).bind fun bt262 => ((perm_Mul.f kj3 l0 t258).bind fun bt266 => ((perm_Inverse.f kj3 t254).bind fun bt270 => ((perm_Inverse.f kj3 l0).bind fun bt274 => ((perm_Inverse.f kj3 l1).bind fun bt278 => ((perm_Mul.f kj3 bt278.1 bt274.1).bind fun bt282 => (if t255 = 0 then (if t259 = 0 then (if bt262.2 = 0 then (if bt266.2 = 0 then (if bt270.2 = 0 then (if bt274.2 = 0 then (if bt278.2 = 0 then (if bt282.2 = 0 then ((galoisref22_Same.f kj3 bt262.1 bt266.1).bind fun t286 => (if t286 = true then ((galoisref22_Same.f kj3 bt270.1 bt282.1).bind fun t287 => (galoislaw22_PermGroup.j1 kj3 l0 l1 l2 t254 (!t287))) else (galoislaw22_PermGroup.j1 kj3 l0 l1 l2 t254 true))) else (galoislaw22_PermGroup.j1 kj3 l0 l1 l2 t254 true)) else (galoislaw22_PermGroup.j1 kj3 l0 l1 l2 t254 true)) else (galoislaw22_PermGroup.j1 kj3 l0 l1 l2 t254 true)) else (galoislaw22_PermGroup.j1 kj3 l0 l1 l2 t254 true)) else (galoislaw22_PermGroup.j1 kj3 l0 l1 l2 t254 true)) else (galoislaw22_PermGroup.j1 kj3 l0 l1 l2 t254 true)) else (galoislaw22_PermGroup.j1 kj3 l0 l1 l2 t254 true)) else (galoislaw22_PermGroup.j1 kj3 l0 l1 l2 t254 true)))))))) = some r := H
        have A20 := Aside0.mk A200
        clear A200
        replace H := Option.bind_eq_some_iff.mp H
        obtain ⟨⟨t262, t263⟩, A210, H⟩ := H
        replace H : ((perm_Mul.f kj3 l0 t258).bind fun bt266 => ((perm_Inverse.f kj3 t254).bind fun bt270 => ((perm_Inverse.f kj3 l0).bind fun bt274 => ((perm_Inverse.f kj3 l1).bind fun bt278 => ((perm_Mul.f kj3 bt278.1 bt274.1).bind fun bt282 => (if t255 = 0 then (if t259 = 0 then (if t263 = 0 then (if bt266.2 = 0 then (if bt270.2 = 0 then (if bt274.2 = 0 then (if bt278.2 = 0 then (if bt282.2 = 0 then ((galoisref22_Same.f kj3 t262 bt266.1).bind fun t286 => (if t286 = true then ((galoisref22_Same.f kj3 bt270.1 bt282.1).bind fun t287 => (galoislaw22_PermGroup.j1 kj3 l0 l1 l2 t254 (!t287))) else (galoislaw22_PermGroup.j1 kj3 l0 l1 l2 t254 true))) else (galoislaw22_PermGroup.j1 kj3 l0 l1 l2 t254 true)) else (galoislaw22_PermGroup.j1 kj3 l0 l1 l2 t254 true)) else (galoislaw22_PermGroup.j1 kj3 l0 l1 l2 t254 true)) else (galoislaw22_PermGroup.j1 kj3 l0 l1 l2 t254 true)) else (galoislaw22_PermGroup.j1 kj3 l0 l1 l2 t254 true)) else (galoislaw22_PermGroup.j1 kj3 l0 l1 l2 t254 true)) else (galoislaw22_PermGroup.j1 kj3 l0 l1 l2 t254 true)) else (galoislaw22_PermGroup.j1 kj3 l0 l1 l2 t254 true))))))) = some r := H
        have A21 := Aside0.mk A210
        clear A210
        replace H := Option.bind_eq_some_iff.mp H
        obtain ⟨⟨t266, t267⟩, A220, H⟩ := H
        replace H : ((perm_Inverse.f kj3 t254).bind fun bt270 => ((perm_Inverse.f kj3 l0).bind fun bt274 => ((perm_Inverse.f kj3 l1).bind fun bt278 => ((perm_Mul.f kj3 bt278.1 bt274.1).bind fun bt282 => (if t255 = 0 then (if t259 = 0 then (if t263 = 0 then (if t267 = 0 then (if bt270.2 = 0 then (if bt274.2 = 0 then (if bt278.2 = 0 then (if bt282.2 = 0 then ((galoisref22_Same.f kj3 t262 t266).bind fun t286 => (if t286 = true then ((galoisref22_Same.f kj3 bt270.1 bt282.1).bind fun t287 => (galoislaw22_PermGroup.j1 kj3 l0 l1 l2 t254 (!t287))) else (galoislaw22_PermGroup.j1 kj3 l0 l1 l2 t254 true))) else (galoislaw22_PermGroup.j1 kj3 l0 l1 l2 t254 true)) else (galoislaw22_PermGroup.j1 kj3 l0 l1 l2 t254 true)) else (galoislaw22_PermGroup.j1 kj3 l0 l1 l2 t254 true)) else (galoislaw22_PermGroup.j1 kj3 l0 l1 l2 t254 true)) else (galoislaw22_PermGroup.j1 kj3 l0 l1 l2 t254 true)) else (galoislaw22_PermGroup.j1 kj3 l0 l1 l2 t254 true)) else (galoislaw22_PermGroup.j1 kj3 l0 l1 l2 t254 true)) else (galoislaw22_PermGroup.j1 kj3 l0 l1 l2 t254 true)))))) = some r := H
        have A22 := Aside0.mk A220
        clear A220
        replace H := Option.bind_eq_some_iff.mp H
        obtain ⟨⟨t270, t271⟩, A230, H⟩ := H
        replace H : ((perm_Inverse.f kj3 l0).bind fun bt274 => ((perm_Inverse.f kj3 l1).bind fun bt278 => ((perm_Mul.f kj3 bt278.1 bt274.1).bind fun bt282 => (if t255 = 0 then (if t259 = 0 then (if t263 = 0 then (if t267 = 0 then (if t271 = 0 then (if bt274.2 = 0 then (if bt278.2 = 0 then (if bt282.2 = 0 then ((galoisref22_Same.f kj3 t262 t266).bind fun t286 => (if t286 = true then ((galoisref22_Same.f kj3 t270 bt282.1).bind fun t287 => (galoislaw22_PermGroup.j1 kj3 l0 l1 l2 t254 (!t287))) else (galoislaw22_PermGroup.j1 kj3 l0 l1 l2 t254 true))) else (galoislaw22_PermGroup.j1 kj3 l0 l1 l2 t254 true)) else (galoislaw22_PermGroup.j1 kj3 l0 l1 l2 t254 true)) else (galoislaw22_PermGroup.j1 kj3 l0 l1 l2 t254 true)) else (galoislaw22_PermGroup.j1 kj3 l0 l1 l2 t254 true)) else (galoislaw22_PermGroup.j1 kj3 l0 l1 l2 t254 true)) else (galoislaw22_PermGroup.j1 kj3 l0 l1 l2 t254 true)) else (galoislaw22_PermGroup.j1 kj3 l0 l1 l2 t254 true)) else (galoislaw22_PermGroup.j1 kj3 l0 l1 l2 t254 true))))) = some r := H
        have A23 := Aside0.mk A230
        clear A230
        replace H := Option.bind_eq_some_iff.mp H
        obtain ⟨⟨t274, t275⟩, A240, H⟩ := H
        replace H : ((perm_Inverse.f kj3 l1).bind fun bt278 => ((perm_Mul.f kj3 bt278.1 t274).bind fun bt282 => (if t255 = 0 then (if t259 = 0 then (if t263 = 0 then (if t267 = 0 then (if t271 = 0 then (if t275 = 0 then (if bt278.2 = 0 then (if bt282.2 = 0 then ((galoisref22_Same.f kj3 t262 t266).bind fun t286 => (if t286 = true then ((galoisref22_Same.f kj3 t270 bt282.1).bind fun t287 => (galoislaw22_PermGroup.j1 kj3 l0 l1 l2 t254 (!t287))) else (galoislaw22_PermGroup.j1 kj3 l0 l1 l2 t254 true))) else (galoislaw22_PermGroup.j1 kj3 l0 l1 l2 t254 true)) else (galoislaw22_PermGroup.j1 kj3 l0 l1 l2 t254 true)) else (galoislaw22_PermGroup.j1 kj3 l0 l1 l2 t254 true)) else (galoislaw22_PermGroup.j1 kj3 l0 l1 l2 t254 true)) else (galoislaw22_PermGroup.j1 kj3 l0 l1 l2 t254 true)) else (galoislaw22_PermGroup.j1 kj3 l0 l1 l2 t254 true)) else (galoislaw22_PermGroup.j1 kj3 l0 l1 l2 t254 true)) else (galoislaw22_PermGroup.j1 kj3 l0 l1 l2 t254 true)))) = some r := H
        have A24 := Aside0.mk A240
        clear A240
        replace H := Option.bind_eq_some_iff.mp H
        obtain ⟨⟨t278, t279⟩, A250, H⟩ := H
        replace H : ((perm_Mul.f kj3 t278 t274).bind fun bt282 => (if t255 = 0 then (if t259 = 0 then (if t263 = 0 then (if t267 = 0 then (if t271 = 0 then (if t275 = 0 then (if t279 = 0 then (if bt282.2 = 0 then ((galoisref22_Same.f kj3 t262 t266).bind fun t286 => (if t286 = true then ((galoisref22_Same.f kj3 t270 bt282.1).bind fun t287 => (galoislaw22_PermGroup.j1 kj3 l0 l1 l2 t254 (!t287))) else (galoislaw22_PermGroup.j1 kj3 l0 l1 l2 t254 true))) else (galoislaw22_PermGroup.j1 kj3 l0 l1 l2 t254 true)) else (galoislaw22_PermGroup.j1 kj3 l0 l1 l2 t254 true)) else (galoislaw22_PermGroup.j1 kj3 l0 l1 l2 t254 true)) else (galoislaw22_PermGroup.j1 kj3 l0 l1 l2 t254 true)) else (galoislaw22_PermGroup.j1 kj3 l0 l1 l2 t254 true)) else (galoislaw22_PermGroup.j1 kj3 l0 l1 l2 t254 true)) else (galoislaw22_PermGroup.j1 kj3 l0 l1 l2 t254 true)) else (galoislaw22_PermGroup.j1 kj3 l0 l1 l2 t254 true))) = some r := H
        have A25 := Aside0.mk A250
        clear A250
        replace H := Option.bind_eq_some_iff.mp H
        obtain ⟨⟨t282, t283⟩, A260, H⟩ := H
        replace H : (if t255 = 0 then (if t259 = 0 then (if t263 = 0 then (if t267 = 0 then (if t271 = 0 then (if t275 = 0 then (if t279 = 0 then (if t283 = 0 then ((galoisref22_Same.f kj3 t262 t266).bind fun t286 => (if t286 = true then ((galoisref22_Same.f kj3 t270 t282).bind fun t287 => (galoislaw22_PermGroup.j1 kj3 l0 l1 l2 t254 (!t287))) else (galoislaw22_PermGroup.j1 kj3 l0 l1 l2 t254 true))) else (galoislaw22_PermGroup.j1 kj3 l0 l1 l2 t254 true)) else (galoislaw22_PermGroup.j1 kj3 l0 l1 l2 t254 true)) else (galoislaw22_PermGroup.j1 kj3 l0 l1 l2 t254 true)) else (galoislaw22_PermGroup.j1 kj3 l0 l1 l2 t254 true)) else (galoislaw22_PermGroup.j1 kj3 l0 l1 l2 t254 true)) else (galoislaw22_PermGroup.j1 kj3 l0 l1 l2 t254 true)) else (galoislaw22_PermGroup.j1 kj3 l0 l1 l2 t254 true)) else (galoislaw22_PermGroup.j1 kj3 l0 l1 l2 t254 true)) = some r := H
        have A26 := Aside0.mk A260
        clear A260
        have HC27 := Aside0.mk H
        clear H
        go_upto_region 11 with (first | ((with_reducible refine gate_callee (f := 16) rfl ?_); refine goesL_ (some 50) rfl rfl Tryd.func16 (by kernel_rfl) rfl #[.slice A0 l0.length c0, .slice A1 l1.length c1] rfl (by (try simp only [List.map_toArray, List.map_cons, List.map_nil]); first | done | rfl | (simp only [List.length_drop, List.length_take]; rfl)) ?_; (with_reducible refine (perm_Mul.calls kj3 _ _ l0 _ _ l1 t254 t255 _ ?side1 ?side2 ?side3 ?side4 A19.out).mono ?_); (case side1 => repeat (first | exact (Kd.C_below HR0.out HB.out) | (with_reducible refine Kd.C_alloc ?_ _) | (with_reducible refine Kd.C_drewN ?_ _) | (with_reducible refine Kd.C_drew ?_))); (case side2 => exact HC0.out); (case side3 => repeat (first | exact (Kd.C_below HR1.out HB.out) | (with_reducible refine Kd.C_alloc ?_ _) | (with_reducible refine Kd.C_drewN ?_ _) | (with_reducible refine Kd.C_drew ?_))); (case side4 => exact HC1.out); rintro e w28 ⟨v256, rfl, ho0, hb⟩; refine ⟨_, rfl, ?_⟩; have n0_ := Aside0.mk (Kd.R_lower ho0 (below_size (by repeat (first | (with_reducible first | exact HB.out | apply below_alloc | apply pw_below_drewN | apply below_drew1) | exact HB.out)))); have n1_ := Aside0.mk (below_step (by repeat (first | (with_reducible first | exact HB.out | apply below_alloc | apply pw_below_drewN | apply below_drew1) | exact HB.out)) hb); clear HB; have HO257 := n0_; have HB := n1_; clear n0_ n1_; (try clear hb); (try clear hb2); (try clear hk); (try clear hi); (try clear ho0)) | ((with_reducible refine gate_callee (f := 16) rfl ?_); refine goesL_ (some 56) rfl rfl Tryd.func16 (by kernel_rfl) rfl #[.slice A1 l1.length c1, .slice A2 l2.length c2] rfl (by (try simp only [List.map_toArray, List.map_cons, List.map_nil]); first | done | rfl | (simp only [List.length_drop, List.length_take]; rfl)) ?_; (with_reducible refine (perm_Mul.calls kj3 _ _ l1 _ _ l2 t258 t259 _ ?side1 ?side2 ?side3 ?side4 A20.out).mono ?_); (case side1 => repeat (first | exact (Kd.C_below HR1.out HB.out) | (with_reducible refine Kd.C_alloc ?_ _) | (with_reducible refine Kd.C_drewN ?_ _) | (with_reducible refine Kd.C_drew ?_))); (case side2 => exact HC1.out); (case side3 => repeat (first | exact (Kd.C_below HR2.out HB.out) | (with_reducible refine Kd.C_alloc ?_ _) | (with_reducible refine Kd.C_drewN ?_ _) | (with_reducible refine Kd.C_drew ?_))); (case side4 => exact HC2.out); rintro e w29 ⟨v260, rfl, ho0, hb⟩; refine ⟨_, rfl, ?_⟩; have n0_ := Aside0.mk (Kd.R_elder' (by (with_reducible repeat (first | apply Kd.R_alloc | apply Kd.R_drewN | apply Kd.R_drew)); exact HO257.out) (Kd.R_base ho0) hb); have n1_ := Aside0.mk (Kd.R_lower (Kd.R_new' ho0 (Kd.R_lt (by (with_reducible repeat (first | apply Kd.R_alloc | apply Kd.R_drewN | apply Kd.R_drew)); exact HO257.out))) (below_size (by repeat (first | (with_reducible first | exact HB.out | apply below_alloc | apply pw_below_drewN | apply below_drew1) | exact HB.out)))); have n2_ := Aside0.mk (below_step (by repeat (first | (with_reducible first | exact HB.out | apply below_alloc | apply pw_below_drewN | apply below_drew1) | exact HB.out)) hb); clear HO257; clear HB; have HO257 := n0_; have HO261 := n1_; have HB := n2_; clear n0_ n1_ n2_; (try clear hb); (try clear hb2); (try clear hk); (try clear hi); (try clear ho0); obtain ⟨Ao30, co30, eo30⟩ := Kd.R_slice HO257.out; subst eo30) | ((with_reducible refine gate_callee (f := 16) rfl ?_); refine goesL_ (some 62) rfl rfl Tryd.func16 (by kernel_rfl) rfl #[.slice Ao30 t254.length co30, .slice A2 l2.length c2] rfl (by (try simp only [List.map_toArray, List.map_cons, List.map_nil]); first | done | rfl | (simp only [List.length_drop, List.length_take]; rfl)) ?_; (with_reducible refine (perm_Mul.calls kj3 _ _ t254 _ _ l2 t262 t263 _ ?side1 ?side2 ?side3 ?side4 A21.out).mono ?_); (case side1 => repeat (first | exact (Kd.R_reads' HO257.out).2.2 | (with_reducible refine Kd.C_alloc ?_ _) | (with_reducible refine Kd.C_drewN ?_ _) | (with_reducible refine Kd.C_drew ?_))); (case side2 => exact (Kd.R_reads' HO257.out).2.1); (case side3 => repeat (first | exact (Kd.C_below HR2.out HB.out) | (with_reducible refine Kd.C_alloc ?_ _) | (with_reducible refine Kd.C_drewN ?_ _) | (with_reducible refine Kd.C_drew ?_))); (case side4 => exact HC2.out); rintro e w31 ⟨v264, rfl, ho0, hb⟩; refine ⟨_, rfl, ?_⟩; have n0_ := Aside0.mk (Kd.R_elder' (by (with_reducible repeat (first | apply Kd.R_alloc | apply Kd.R_drewN | apply Kd.R_drew)); exact HO257.out) (Kd.R_base ho0) hb); have n1_ := Aside0.mk (Kd.R_elder' (by (with_reducible repeat (first | apply Kd.R_alloc | apply Kd.R_drewN | apply Kd.R_drew)); exact HO261.out) (Kd.R_base ho0) hb); have n2_ := Aside0.mk (Kd.R_lower (Kd.R_new' (Kd.R_new' ho0 (Kd.R_lt (by (with_reducible repeat (first | apply Kd.R_alloc | apply Kd.R_drewN | apply Kd.R_drew)); exact HO257.out))) (Kd.R_lt (by (with_reducible repeat (first | apply Kd.R_alloc | apply Kd.R_drewN | apply Kd.R_drew)); exact HO261.out))) (below_size (by repeat (first | (with_reducible first | exact HB.out | apply below_alloc | apply pw_below_drewN | apply below_drew1) | exact HB.out)))); have n3_ := Aside0.mk (below_step (by repeat (first | (with_reducible first | exact HB.out | apply below_alloc | apply pw_below_drewN | apply below_drew1) | exact HB.out)) hb); clear HO257; clear HO261; clear HB; have HO257 := n0_; have HO261 := n1_; have HO265 := n2_; have HB := n3_; clear n0_ n1_ n2_ n3_; (try clear hb); (try clear hb2); (try clear hk); (try clear hi); (try clear ho0); obtain ⟨Ao32, co32, eo32⟩ := Kd.R_slice HO261.out; subst eo32) | ((with_reducible refine gate_callee (f := 16) rfl ?_); refine goesL_ (some 68) rfl rfl Tryd.func16 (by kernel_rfl) rfl #[.slice A0 l0.length c0, .slice Ao32 t258.length co32] rfl (by (try simp only [List.map_toArray, List.map_cons, List.map_nil]); first | done | rfl | (simp only [List.length_drop, List.length_take]; rfl)) ?_; (with_reducible refine (perm_Mul.calls kj3 _ _ l0 _ _ t258 t266 t267 _ ?side1 ?side2 ?side3 ?side4 A22.out).mono ?_); (case side1 => repeat (first | exact (Kd.C_below HR0.out HB.out) | (with_reducible refine Kd.C_alloc ?_ _) | (with_reducible refine Kd.C_drewN ?_ _) | (with_reducible refine Kd.C_drew ?_))); (case side2 => exact HC0.out); (case side3 => repeat (first | exact (Kd.R_reads' HO261.out).2.2 | (with_reducible refine Kd.C_alloc ?_ _) | (with_reducible refine Kd.C_drewN ?_ _) | (with_reducible refine Kd.C_drew ?_))); (case side4 => exact (Kd.R_reads' HO261.out).2.1); rintro e w33 ⟨v268, rfl, ho0, hb⟩; refine ⟨_, rfl, ?_⟩; have n0_ := Aside0.mk (Kd.R_elder' (by (with_reducible repeat (first | apply Kd.R_alloc | apply Kd.R_drewN | apply Kd.R_drew)); exact HO257.out) (Kd.R_base ho0) hb); have n1_ := Aside0.mk (Kd.R_elder' (by (with_reducible repeat (first | apply Kd.R_alloc | apply Kd.R_drewN | apply Kd.R_drew)); exact HO261.out) (Kd.R_base ho0) hb); have n2_ := Aside0.mk (Kd.R_elder' (by (with_reducible repeat (first | apply Kd.R_alloc | apply Kd.R_drewN | apply Kd.R_drew)); exact HO265.out) (Kd.R_base ho0) hb); have n3_ := Aside0.mk (Kd.R_lower (Kd.R_new' (Kd.R_new' (Kd.R_new' ho0 (Kd.R_lt (by (with_reducible repeat (first | apply Kd.R_alloc | apply Kd.R_drewN | apply Kd.R_drew)); exact HO257.out))) (Kd.R_lt (by (with_reducible repeat (first | apply Kd.R_alloc | apply Kd.R_drewN | apply Kd.R_drew)); exact HO261.out))) (Kd.R_lt (by (with_reducible repeat (first | apply Kd.R_alloc | apply Kd.R_drewN | apply Kd.R_drew)); exact HO265.out))) (below_size (by repeat (first | (with_reducible first | exact HB.out | apply below_alloc | apply pw_below_drewN | apply below_drew1) | exact HB.out)))); have n4_ := Aside0.mk (below_step (by repeat (first | (with_reducible first | exact HB.out | apply below_alloc | apply pw_below_drewN | apply below_drew1) | exact HB.out)) hb); clear HO257; clear HO261; clear HO265; clear HB; have HO257 := n0_; have HO261 := n1_; have HO265 := n2_; have HO269 := n3_; have HB := n4_; clear n0_ n1_ n2_ n3_ n4_; (try clear hb); (try clear hb2); (try clear hk); (try clear hi); (try clear ho0)) | ((with_reducible refine gate_callee (f := 44) rfl ?_); refine goesL_ (some 73) rfl rfl Tryd.func44 (by kernel_rfl) rfl #[.slice Ao30 t254.length co30] rfl (by (try simp only [List.map_toArray, List.map_cons, List.map_nil]); first | done | rfl | (simp only [List.length_drop, List.length_take]; rfl)) ?_; (with_reducible refine (perm_Inverse.calls kj3 _ _ t254 t270 t271 _ ?side1 ?side2 A23.out).mono ?_); (case side1 => repeat (first | exact (Kd.R_reads' HO257.out).2.2 | (with_reducible refine Kd.C_alloc ?_ _) | (with_reducible refine Kd.C_drewN ?_ _) | (with_reducible refine Kd.C_drew ?_))); (case side2 => exact (Kd.R_reads' HO257.out).2.1); rintro e w34 ⟨v272, rfl, ho0, hb⟩; refine ⟨_, rfl, ?_⟩; have n0_ := Aside0.mk (Kd.R_elder' (by (with_reducible repeat (first | apply Kd.R_alloc | apply Kd.R_drewN | apply Kd.R_drew)); exact HO257.out) (Kd.R_base ho0) hb); have n1_ := Aside0.mk (Kd.R_elder' (by (with_reducible repeat (first | apply Kd.R_alloc | apply Kd.R_drewN | apply Kd.R_drew)); exact HO261.out) (Kd.R_base ho0) hb); have n2_ := Aside0.mk (Kd.R_elder' (by (with_reducible repeat (first | apply Kd.R_alloc | apply Kd.R_drewN | apply Kd.R_drew)); exact HO265.out) (Kd.R_base ho0) hb); have n3_ := Aside0.mk (Kd.R_elder' (by (with_reducible repeat (first | apply Kd.R_alloc | apply Kd.R_drewN | apply Kd.R_drew)); exact HO269.out) (Kd.R_base ho0) hb); have n4_ := Aside0.mk (Kd.R_lower (Kd.R_new' (Kd.R_new' (Kd.R_new' (Kd.R_new' ho0 (Kd.R_lt (by (with_reducible repeat (first | apply Kd.R_alloc | apply Kd.R_drewN | apply Kd.R_drew)); exact HO257.out))) (Kd.R_lt (by (with_reducible repeat (first | apply Kd.R_alloc | apply Kd.R_drewN | apply Kd.R_drew)); exact HO261.out))) (Kd.R_lt (by (with_reducible repeat (first | apply Kd.R_alloc | apply Kd.R_drewN | apply Kd.R_drew)); exact HO265.out))) (Kd.R_lt (by (with_reducible repeat (first | apply Kd.R_alloc | apply Kd.R_drewN | apply Kd.R_drew)); exact HO269.out))) (below_size (by repeat (first | (with_reducible first | exact HB.out | apply below_alloc | apply pw_below_drewN | apply below_drew1) | exact HB.out)))); have n5_ := Aside0.mk (below_step (by repeat (first | (with_reducible first | exact HB.out | apply below_alloc | apply pw_below_drewN | apply below_drew1) | exact HB.out)) hb); clear HO257; clear HO261; clear HO265; clear HO269; clear HB; have HO257 := n0_; have HO261 := n1_; have HO265 := n2_; have HO269 := n3_; have HO273 := n4_; have HB := n5_; clear n0_ n1_ n2_ n3_ n4_ n5_; (try clear hb); (try clear hb2); (try clear hk); (try clear hi); (try clear ho0)) | ((with_reducible refine gate_callee (f := 44) rfl ?_); refine goesL_ (some 78) rfl rfl Tryd.func44 (by kernel_rfl) rfl #[.slice A0 l0.length c0] rfl (by (try simp only [List.map_toArray, List.map_cons, List.map_nil]); first | done | rfl | (simp only [List.length_drop, List.length_take]; rfl)) ?_; (with_reducible refine (perm_Inverse.calls kj3 _ _ l0 t274 t275 _ ?side1 ?side2 A24.out).mono ?_); (case side1 => repeat (first | exact (Kd.C_below HR0.out HB.out) | (with_reducible refine Kd.C_alloc ?_ _) | (with_reducible refine Kd.C_drewN ?_ _) | (with_reducible refine Kd.C_drew ?_))); (case side2 => exact HC0.out); rintro e w35 ⟨v276, rfl, ho0, hb⟩; refine ⟨_, rfl, ?_⟩; have n0_ := Aside0.mk (Kd.R_elder' (by (with_reducible repeat (first | apply Kd.R_alloc | apply Kd.R_drewN | apply Kd.R_drew)); exact HO257.out) (Kd.R_base ho0) hb); have n1_ := Aside0.mk (Kd.R_elder' (by (with_reducible repeat (first | apply Kd.R_alloc | apply Kd.R_drewN | apply Kd.R_drew)); exact HO261.out) (Kd.R_base ho0) hb); have n2_ := Aside0.mk (Kd.R_elder' (by (with_reducible repeat (first | apply Kd.R_alloc | apply Kd.R_drewN | apply Kd.R_drew)); exact HO265.out) (Kd.R_base ho0) hb); have n3_ := Aside0.mk (Kd.R_elder' (by (with_reducible repeat (first | apply Kd.R_alloc | apply Kd.R_drewN | apply Kd.R_drew)); exact HO269.out) (Kd.R_base ho0) hb); have n4_ := Aside0.mk (Kd.R_elder' (by (with_reducible repeat (first | apply Kd.R_alloc | apply Kd.R_drewN | apply Kd.R_drew)); exact HO273.out) (Kd.R_base ho0) hb); have n5_ := Aside0.mk (Kd.R_lower (Kd.R_new' (Kd.R_new' (Kd.R_new' (Kd.R_new' (Kd.R_new' ho0 (Kd.R_lt (by (with_reducible repeat (first | apply Kd.R_alloc | apply Kd.R_drewN | apply Kd.R_drew)); exact HO257.out))) (Kd.R_lt (by (with_reducible repeat (first | apply Kd.R_alloc | apply Kd.R_drewN | apply Kd.R_drew)); exact HO261.out))) (Kd.R_lt (by (with_reducible repeat (first | apply Kd.R_alloc | apply Kd.R_drewN | apply Kd.R_drew)); exact HO265.out))) (Kd.R_lt (by (with_reducible repeat (first | apply Kd.R_alloc | apply Kd.R_drewN | apply Kd.R_drew)); exact HO269.out))) (Kd.R_lt (by (with_reducible repeat (first | apply Kd.R_alloc | apply Kd.R_drewN | apply Kd.R_drew)); exact HO273.out))) (below_size (by repeat (first | (with_reducible first | exact HB.out | apply below_alloc | apply pw_below_drewN | apply below_drew1) | exact HB.out)))); have n6_ := Aside0.mk (below_step (by repeat (first | (with_reducible first | exact HB.out | apply below_alloc | apply pw_below_drewN | apply below_drew1) | exact HB.out)) hb); clear HO257; clear HO261; clear HO265; clear HO269; clear HO273; clear HB; have HO257 := n0_; have HO261 := n1_; have HO265 := n2_; have HO269 := n3_; have HO273 := n4_; have HO277 := n5_; have HB := n6_; clear n0_ n1_ n2_ n3_ n4_ n5_ n6_; (try clear hb); (try clear hb2); (try clear hk); (try clear hi); (try clear ho0)) | ((with_reducible refine gate_callee (f := 44) rfl ?_); refine goesL_ (some 83) rfl rfl Tryd.func44 (by kernel_rfl) rfl #[.slice A1 l1.length c1] rfl (by (try simp only [List.map_toArray, List.map_cons, List.map_nil]); first | done | rfl | (simp only [List.length_drop, List.length_take]; rfl)) ?_; (with_reducible refine (perm_Inverse.calls kj3 _ _ l1 t278 t279 _ ?side1 ?side2 A25.out).mono ?_); (case side1 => repeat (first | exact (Kd.C_below HR1.out HB.out) | (with_reducible refine Kd.C_alloc ?_ _) | (with_reducible refine Kd.C_drewN ?_ _) | (with_reducible refine Kd.C_drew ?_))); (case side2 => exact HC1.out); rintro e w36 ⟨v280, rfl, ho0, hb⟩; refine ⟨_, rfl, ?_⟩; have n0_ := Aside0.mk (Kd.R_elder' (by (with_reducible repeat (first | apply Kd.R_alloc | apply Kd.R_drewN | apply Kd.R_drew)); exact HO257.out) (Kd.R_base ho0) hb); have n1_ := Aside0.mk (Kd.R_elder' (by (with_reducible repeat (first | apply Kd.R_alloc | apply Kd.R_drewN | apply Kd.R_drew)); exact HO261.out) (Kd.R_base ho0) hb); have n2_ := Aside0.mk (Kd.R_elder' (by (with_reducible repeat (first | apply Kd.R_alloc | apply Kd.R_drewN | apply Kd.R_drew)); exact HO265.out) (Kd.R_base ho0) hb); have n3_ := Aside0.mk (Kd.R_elder' (by (with_reducible repeat (first | apply Kd.R_alloc | apply Kd.R_drewN | apply Kd.R_drew)); exact HO269.out) (Kd.R_base ho0) hb); have n4_ := Aside0.mk (Kd.R_elder' (by (with_reducible repeat (first | apply Kd.R_alloc | apply Kd.R_drewN | apply Kd.R_drew)); exact HO273.out) (Kd.R_base ho0) hb); have n5_ := Aside0.mk (Kd.R_elder' (by (with_reducible repeat (first | apply Kd.R_alloc | apply Kd.R_drewN | apply Kd.R_drew)); exact HO277.out) (Kd.R_base ho0) hb); have n6_ := Aside0.mk (Kd.R_lower (Kd.R_new' (Kd.R_new' (Kd.R_new' (Kd.R_new' (Kd.R_new' (Kd.R_new' ho0 (Kd.R_lt (by (with_reducible repeat (first | apply Kd.R_alloc | apply Kd.R_drewN | apply Kd.R_drew)); exact HO257.out))) (Kd.R_lt (by (with_reducible repeat (first | apply Kd.R_alloc | apply Kd.R_drewN | apply Kd.R_drew)); exact HO261.out))) (Kd.R_lt (by (with_reducible repeat (first | apply Kd.R_alloc | apply Kd.R_drewN | apply Kd.R_drew)); exact HO265.out))) (Kd.R_lt (by (with_reducible repeat (first | apply Kd.R_alloc | apply Kd.R_drewN | apply Kd.R_drew)); exact HO269.out))) (Kd.R_lt (by (with_reducible repeat (first | apply Kd.R_alloc | apply Kd.R_drewN | apply Kd.R_drew)); exact HO273.out))) (Kd.R_lt (by (with_reducible repeat (first | apply Kd.R_alloc | apply Kd.R_drewN | apply Kd.R_drew)); exact HO277.out))) (below_size (by repeat (first | (with_reducible first | exact HB.out | apply below_alloc | apply pw_below_drewN | apply below_drew1) | exact HB.out)))); have n7_ := Aside0.mk (below_step (by repeat (first | (with_reducible first | exact HB.out | apply below_alloc | apply pw_below_drewN | apply below_drew1) | exact HB.out)) hb); clear HO257; clear HO261; clear HO265; clear HO269; clear HO273; clear HO277; clear HB; have HO257 := n0_; have HO261 := n1_; have HO265 := n2_; have HO269 := n3_; have HO273 := n4_; have HO277 := n5_; have HO281 := n6_; have HB := n7_; clear n0_ n1_ n2_ n3_ n4_ n5_ n6_ n7_; (try clear hb); (try clear hb2); (try clear hk); (try clear hi); (try clear ho0); obtain ⟨Ao37, co37, eo37⟩ := Kd.R_slice HO281.out; subst eo37; obtain ⟨Ao38, co38, eo38⟩ := Kd.R_slice HO277.out; subst eo38) | ((with_reducible refine gate_callee (f := 16) rfl ?_); refine goesL_ (some 89) rfl rfl Tryd.func16 (by kernel_rfl) rfl #[.slice Ao37 t278.length co37, .slice Ao38 t274.length co38] rfl (by (try simp only [List.map_toArray, List.map_cons, List.map_nil]); first | done | rfl | (simp only [List.length_drop, List.length_take]; rfl)) ?_; (with_reducible refine (perm_Mul.calls kj3 _ _ t278 _ _ t274 t282 t283 _ ?side1 ?side2 ?side3 ?side4 A26.out).mono ?_); (case side1 => repeat (first | exact (Kd.R_reads' HO281.out).2.2 | (with_reducible refine Kd.C_alloc ?_ _) | (with_reducible refine Kd.C_drewN ?_ _) | (with_reducible refine Kd.C_drew ?_))); (case side2 => exact (Kd.R_reads' HO281.out).2.1); (case side3 => repeat (first | exact (Kd.R_reads' HO277.out).2.2 | (with_reducible refine Kd.C_alloc ?_ _) | (with_reducible refine Kd.C_drewN ?_ _) | (with_reducible refine Kd.C_drew ?_))); (case side4 => exact (Kd.R_reads' HO277.out).2.1); rintro e w39 ⟨v284, rfl, ho0, hb⟩; refine ⟨_, rfl, ?_⟩; have n0_ := Aside0.mk (Kd.R_elder' (by (with_reducible repeat (first | apply Kd.R_alloc | apply Kd.R_drewN | apply Kd.R_drew)); exact HO257.out) (Kd.R_base ho0) hb); have n1_ := Aside0.mk (Kd.R_elder' (by (with_reducible repeat (first | apply Kd.R_alloc | apply Kd.R_drewN | apply Kd.R_drew)); exact HO261.out) (Kd.R_base ho0) hb); have n2_ := Aside0.mk (Kd.R_elder' (by (with_reducible repeat (first | apply Kd.R_alloc | apply Kd.R_drewN | apply Kd.R_drew)); exact HO265.out) (Kd.R_base ho0) hb); have n3_ := Aside0.mk (Kd.R_elder' (by (with_reducible repeat (first | apply Kd.R_alloc | apply Kd.R_drewN | apply Kd.R_drew)); exact HO269.out) (Kd.R_base ho0) hb); have n4_ := Aside0.mk (Kd.R_elder' (by (with_reducible repeat (first | apply Kd.R_alloc | apply Kd.R_drewN | apply Kd.R_drew)); exact HO273.out) (Kd.R_base ho0) hb); have n5_ := Aside0.mk (Kd.R_elder' (by (with_reducible repeat (first | apply Kd.R_alloc | apply Kd.R_drewN | apply Kd.R_drew)); exact HO277.out) (Kd.R_base ho0) hb); have n6_ := Aside0.mk (Kd.R_elder' (by (with_reducible repeat (first | apply Kd.R_alloc | apply Kd.R_drewN | apply Kd.R_drew)); exact HO281.out) (Kd.R_base ho0) hb); have n7_ := Aside0.mk (Kd.R_lower (Kd.R_new' (Kd.R_new' (Kd.R_new' (Kd.R_new' (Kd.R_new' (Kd.R_new' (Kd.R_new' ho0 (Kd.R_lt (by (with_reducible repeat (first | apply Kd.R_alloc | apply Kd.R_drewN | apply Kd.R_drew)); exact HO257.out))) (Kd.R_lt (by (with_reducible repeat (first | apply Kd.R_alloc | apply Kd.R_drewN | apply Kd.R_drew)); exact HO261.out))) (Kd.R_lt (by (with_reducible repeat (first | apply Kd.R_alloc | apply Kd.R_drewN | apply Kd.R_drew)); exact HO265.out))) (Kd.R_lt (by (with_reducible repeat (first | apply Kd.R_alloc | apply Kd.R_drewN | apply Kd.R_drew)); exact HO269.out))) (Kd.R_lt (by (with_reducible repeat (first | apply Kd.R_alloc | apply Kd.R_drewN | apply Kd.R_drew)); exact HO273.out))) (Kd.R_lt (by (with_reducible repeat (first | apply Kd.R_alloc | apply Kd.R_drewN | apply Kd.R_drew)); exact HO277.out))) (Kd.R_lt (by (with_reducible repeat (first | apply Kd.R_alloc | apply Kd.R_drewN | apply Kd.R_drew)); exact HO281.out))) (below_size (by repeat (first | (with_reducible first | exact HB.out | apply below_alloc | apply pw_below_drewN | apply below_drew1) | exact HB.out)))); have n8_ := Aside0.mk (below_step (by repeat (first | (with_reducible first | exact HB.out | apply below_alloc | apply pw_below_drewN | apply below_drew1) | exact HB.out)) hb); clear HO257; clear HO261; clear HO265; clear HO269; clear HO273; clear HO277; clear HO281; clear HB; have HO257 := n0_; have HO261 := n1_; have HO265 := n2_; have HO269 := n3_; have HO273 := n4_; have HO277 := n5_; have HO281 := n6_; have HO285 := n7_; have HB := n8_; clear n0_ n1_ n2_ n3_ n4_ n5_ n6_ n7_ n8_; (try clear hb); (try clear hb2); (try clear hk); (try clear hi); (try clear ho0)))
        (try simp only [Act.put, List.setIfInBounds_toArray, List.set_cons_zero, List.set_cons_succ])
        go_cut [133] (fun v133 wc => ∃ (kq : Nat) (x133_26 : Bool), v133 = .bool x133_26 ∧ Aside0 (galoislaw22_PermGroup.j1 kq l0 l1 l2 t254 x133_26 = some r) ∧ Aside0 (kq ≤ kj3) ∧ Aside0 (Kd.R (Kd.int .i64) 3 wc w.heap.size (fun _ => True) (.slice Ao30 t254.length co30) t254) ∧ Aside0 (Below w.heap.size w wc))
        case first =>
          have H := HC27.out
          clear HC27
          by_cases c40 : t255 = 0
          · rw [if_pos c40] at H
            have c40b0 : (t255 == 0) = true := beq_iff_eq.mpr c40
            have c40b1 : (t255 != 0) = false := bne_eq_false_iff_eq.mpr c40
            clear c40
            (first | rw [c40b0] | (simp only [i64_w, i32_w]; rw [c40b0]) | skip)
            by_cases c41 : t259 = 0
            · rw [if_pos c41] at H
              have c41b0 : (t259 == 0) = true := beq_iff_eq.mpr c41
              have c41b1 : (t259 != 0) = false := bne_eq_false_iff_eq.mpr c41
              clear c41
              by_cases c42 : t263 = 0
              · rw [if_pos c42] at H
                have c42b0 : (t263 == 0) = true := beq_iff_eq.mpr c42
                have c42b1 : (t263 != 0) = false := bne_eq_false_iff_eq.mpr c42
                clear c42
                by_cases c43 : t267 = 0
                · rw [if_pos c43] at H
                  have c43b0 : (t267 == 0) = true := beq_iff_eq.mpr c43
                  have c43b1 : (t267 != 0) = false := bne_eq_false_iff_eq.mpr c43
                  clear c43
                  by_cases c44 : t271 = 0
                  · rw [if_pos c44] at H
                    have c44b0 : (t271 == 0) = true := beq_iff_eq.mpr c44
                    have c44b1 : (t271 != 0) = false := bne_eq_false_iff_eq.mpr c44
                    clear c44
                    by_cases c45 : t275 = 0
                    · rw [if_pos c45] at H
                      have c45b0 : (t275 == 0) = true := beq_iff_eq.mpr c45
                      have c45b1 : (t275 != 0) = false := bne_eq_false_iff_eq.mpr c45
                      clear c45
                      by_cases c46 : t279 = 0
                      · rw [if_pos c46] at H
                        have c46b0 : (t279 == 0) = true := beq_iff_eq.mpr c46
                        have c46b1 : (t279 != 0) = false := bne_eq_false_iff_eq.mpr c46
                        clear c46
                        by_cases c47 : t283 = 0
                        · rw [if_pos c47] at H
                          have c47b0 : (t283 == 0) = true := beq_iff_eq.mpr c47
                          have c47b1 : (t283 != 0) = false := bne_eq_false_iff_eq.mpr c47
                          clear c47
                          replace H := Option.bind_eq_some_iff.mp H
                          obtain ⟨t286, A480, H⟩ := H
                          replace H : (if t286 = true then ((galoisref22_Same.f kj3 t270 t282).bind fun t287 => (galoislaw22_PermGroup.j1 kj3 l0 l1 l2 t254 (!t287))) else (galoislaw22_PermGroup.j1 kj3 l0 l1 l2 t254 true)) = some r := H
                          have A48 := Aside0.mk A480
                          clear A480
                          by_cases c49 : t286 = true
                          · subst c49
                            have H1 : ((galoisref22_Same.f kj3 t270 t282).bind fun t287 => (galoislaw22_PermGroup.j1 kj3 l0 l1 l2 t254 (!t287))) = some r := by rw [if_pos rfl] at H; exact H
                            clear H
                            have H := H1
                            clear H1
                            replace H := Option.bind_eq_some_iff.mp H
                            obtain ⟨t287, A500, H⟩ := H
                            replace H : (galoislaw22_PermGroup.j1 kj3 l0 l1 l2 t254 (!t287)) = some r := H
                            have A50 := Aside0.mk A500
                            clear A500
                            have H' := Aside0.mk H
                            clear H
                            obtain ⟨Ao51, co51, eo51⟩ := Kd.R_slice HO265.out
                            subst eo51
                            obtain ⟨Ao52, co52, eo52⟩ := Kd.R_slice HO269.out
                            subst eo52
                            as_aux_lemma =>
                              go_wp2_with (first | (go_at_call 19; (with_reducible refine (galoisref22_Same.calls kj3 _ _ t262 _ _ t266 true _ ?side1 ?side2 ?side3 ?side4 A48.out).mono ?_); (case side1 => repeat (first | exact (Kd.R_reads' HO265.out).2.2 | (with_reducible refine Kd.C_alloc ?_ _) | (with_reducible refine Kd.C_drewN ?_ _) | (with_reducible refine Kd.C_drew ?_))); (case side2 => exact (Kd.R_reads' HO265.out).2.1); (case side3 => repeat (first | exact (Kd.R_reads' HO269.out).2.2 | (with_reducible refine Kd.C_alloc ?_ _) | (with_reducible refine Kd.C_drewN ?_ _) | (with_reducible refine Kd.C_drew ?_))); (case side4 => exact (Kd.R_reads' HO269.out).2.1); rintro e w' ⟨rfl, ⟨nd, rfl⟩⟩; obtain ⟨Ao53, co53, eo53⟩ := Kd.R_slice HO273.out; subst eo53; obtain ⟨Ao54, co54, eo54⟩ := Kd.R_slice HO285.out; subst eo54) | (go_at_call 19; (with_reducible refine (galoisref22_Same.calls kj3 _ _ t270 _ _ t282 t287 _ ?side1 ?side2 ?side3 ?side4 A50.out).mono ?_); (case side1 => repeat (first | exact (Kd.R_reads' HO273.out).2.2 | (with_reducible refine Kd.C_alloc ?_ _) | (with_reducible refine Kd.C_drewN ?_ _) | (with_reducible refine Kd.C_drew ?_))); (case side2 => exact (Kd.R_reads' HO273.out).2.1); (case side3 => repeat (first | exact (Kd.R_reads' HO285.out).2.2 | (with_reducible refine Kd.C_alloc ?_ _) | (with_reducible refine Kd.C_drewN ?_ _) | (with_reducible refine Kd.C_drew ?_))); (case side4 => exact (Kd.R_reads' HO285.out).2.1); rintro e w' ⟨rfl, ⟨nd, rfl⟩⟩))
                              go_meet
                              case rel => exact ⟨_, (!t287), (by first | rfl | (simp; done) | (simp [*]; done)), H', ⟨by have := HJ3.out; first | omega | exact Nat.le_refl _⟩, ⟨by (with_reducible repeat (first | apply Kd.R_alloc | apply Kd.R_drewN | apply Kd.R_drew)); exact Kd.R_mono HO257.out (fun _ hk => trivial)⟩, ⟨by repeat (first | (with_reducible first | exact HB.out | apply below_alloc | apply pw_below_drewN | apply below_drew1) | exact HB.out)⟩⟩
                          · replace c49 := Bool.eq_false_iff.mpr c49
                            subst c49
                            have H1 : (galoislaw22_PermGroup.j1 kj3 l0 l1 l2 t254 true) = some r := by rw [if_neg (show ¬ (false = true) by decide)] at H; exact H
                            clear H
                            have H := H1
                            clear H1
                            have H' := Aside0.mk H
                            clear H
                            obtain ⟨Ao55, co55, eo55⟩ := Kd.R_slice HO265.out
                            subst eo55
                            obtain ⟨Ao56, co56, eo56⟩ := Kd.R_slice HO269.out
                            subst eo56
                            as_aux_lemma =>
                              go_wp2_with (first | (go_at_call 19; (with_reducible refine (galoisref22_Same.calls kj3 _ _ t262 _ _ t266 false _ ?side1 ?side2 ?side3 ?side4 A48.out).mono ?_); (case side1 => repeat (first | exact (Kd.R_reads' HO265.out).2.2 | (with_reducible refine Kd.C_alloc ?_ _) | (with_reducible refine Kd.C_drewN ?_ _) | (with_reducible refine Kd.C_drew ?_))); (case side2 => exact (Kd.R_reads' HO265.out).2.1); (case side3 => repeat (first | exact (Kd.R_reads' HO269.out).2.2 | (with_reducible refine Kd.C_alloc ?_ _) | (with_reducible refine Kd.C_drewN ?_ _) | (with_reducible refine Kd.C_drew ?_))); (case side4 => exact (Kd.R_reads' HO269.out).2.1); rintro e w' ⟨rfl, ⟨nd, rfl⟩⟩))
                              go_meet
                              case rel => exact ⟨_, (true), (by first | rfl | (simp; done) | (simp [*]; done)), H', ⟨by have := HJ3.out; first | omega | exact Nat.le_refl _⟩, ⟨by (with_reducible repeat (first | apply Kd.R_alloc | apply Kd.R_drewN | apply Kd.R_drew)); exact Kd.R_mono HO257.out (fun _ hk => trivial)⟩, ⟨by repeat (first | (with_reducible first | exact HB.out | apply below_alloc | apply pw_below_drewN | apply below_drew1) | exact HB.out)⟩⟩
                        · rw [if_neg c47] at H
                          have c47b0 : (t283 == 0) = false := beq_eq_false_iff_ne.mpr c47
                          have c47b1 : (t283 != 0) = true := bne_iff_ne.mpr c47
                          have H' := Aside0.mk H
                          clear H
                          as_aux_lemma =>
                            go_wp2
                            go_meet
                            case rel => exact ⟨_, (true), (by first | rfl | (simp; done) | (simp [*]; done)), H', ⟨by have := HJ3.out; first | omega | exact Nat.le_refl _⟩, ⟨by (with_reducible repeat (first | apply Kd.R_alloc | apply Kd.R_drewN | apply Kd.R_drew)); exact Kd.R_mono HO257.out (fun _ hk => trivial)⟩, ⟨by repeat (first | (with_reducible first | exact HB.out | apply below_alloc | apply pw_below_drewN | apply below_drew1) | exact HB.out)⟩⟩
                      · rw [if_neg c46] at H
                        have c46b0 : (t279 == 0) = false := beq_eq_false_iff_ne.mpr c46
                        have c46b1 : (t279 != 0) = true := bne_iff_ne.mpr c46
                        have H' := Aside0.mk H
                        clear H
                        as_aux_lemma =>
                          go_wp2
                          go_meet
                          case rel => exact ⟨_, (true), (by first | rfl | (simp; done) | (simp [*]; done)), H', ⟨by have := HJ3.out; first | omega | exact Nat.le_refl _⟩, ⟨by (with_reducible repeat (first | apply Kd.R_alloc | apply Kd.R_drewN | apply Kd.R_drew)); exact Kd.R_mono HO257.out (fun _ hk => trivial)⟩, ⟨by repeat (first | (with_reducible first | exact HB.out | apply below_alloc | apply pw_below_drewN | apply below_drew1) | exact HB.out)⟩⟩
                    · rw [if_neg c45] at H
                      have c45b0 : (t275 == 0) = false := beq_eq_false_iff_ne.mpr c45
                      have c45b1 : (t275 != 0) = true := bne_iff_ne.mpr c45
                      have H' := Aside0.mk H
                      clear H
                      as_aux_lemma =>
                        go_wp2
                        go_meet
                        case rel => exact ⟨_, (true), (by first | rfl | (simp; done) | (simp [*]; done)), H', ⟨by have := HJ3.out; first | omega | exact Nat.le_refl _⟩, ⟨by (with_reducible repeat (first | apply Kd.R_alloc | apply Kd.R_drewN | apply Kd.R_drew)); exact Kd.R_mono HO257.out (fun _ hk => trivial)⟩, ⟨by repeat (first | (with_reducible first | exact HB.out | apply below_alloc | apply pw_below_drewN | apply below_drew1) | exact HB.out)⟩⟩
                  · rw [if_neg c44] at H
                    have c44b0 : (t271 == 0) = false := beq_eq_false_iff_ne.mpr c44
                    have c44b1 : (t271 != 0) = true := bne_iff_ne.mpr c44
                    have H' := Aside0.mk H
                    clear H
                    as_aux_lemma =>
                      go_wp2
                      go_meet
                      case rel => exact ⟨_, (true), (by first | rfl | (simp; done) | (simp [*]; done)), H', ⟨by have := HJ3.out; first | omega | exact Nat.le_refl _⟩, ⟨by (with_reducible repeat (first | apply Kd.R_alloc | apply Kd.R_drewN | apply Kd.R_drew)); exact Kd.R_mono HO257.out (fun _ hk => trivial)⟩, ⟨by repeat (first | (with_reducible first | exact HB.out | apply below_alloc | apply pw_below_drewN | apply below_drew1) | exact HB.out)⟩⟩
                · rw [if_neg c43] at H
                  have c43b0 : (t267 == 0) = false := beq_eq_false_iff_ne.mpr c43
                  have c43b1 : (t267 != 0) = true := bne_iff_ne.mpr c43
                  have H' := Aside0.mk H
                  clear H
                  as_aux_lemma =>
                    go_wp2
                    go_meet
                    case rel => exact ⟨_, (true), (by first | rfl | (simp; done) | (simp [*]; done)), H', ⟨by have := HJ3.out; first | omega | exact Nat.le_refl _⟩, ⟨by (with_reducible repeat (first | apply Kd.R_alloc | apply Kd.R_drewN | apply Kd.R_drew)); exact Kd.R_mono HO257.out (fun _ hk => trivial)⟩, ⟨by repeat (first | (with_reducible first | exact HB.out | apply below_alloc | apply pw_below_drewN | apply below_drew1) | exact HB.out)⟩⟩
              · rw [if_neg c42] at H
                have c42b0 : (t263 == 0) = false := beq_eq_false_iff_ne.mpr c42
                have c42b1 : (t263 != 0) = true := bne_iff_ne.mpr c42
                have H' := Aside0.mk H
                clear H
                as_aux_lemma =>
                  go_wp2
                  go_meet
                  case rel => exact ⟨_, (true), (by first | rfl | (simp; done) | (simp [*]; done)), H', ⟨by have := HJ3.out; first | omega | exact Nat.le_refl _⟩, ⟨by (with_reducible repeat (first | apply Kd.R_alloc | apply Kd.R_drewN | apply Kd.R_drew)); exact Kd.R_mono HO257.out (fun _ hk => trivial)⟩, ⟨by repeat (first | (with_reducible first | exact HB.out | apply below_alloc | apply pw_below_drewN | apply below_drew1) | exact HB.out)⟩⟩
            · rw [if_neg c41] at H
              have c41b0 : (t259 == 0) = false := beq_eq_false_iff_ne.mpr c41
              have c41b1 : (t259 != 0) = true := bne_iff_ne.mpr c41
              have H' := Aside0.mk H
              clear H
              as_aux_lemma =>
                go_wp2
                go_meet
                case rel => exact ⟨_, (true), (by first | rfl | (simp; done) | (simp [*]; done)), H', ⟨by have := HJ3.out; first | omega | exact Nat.le_refl _⟩, ⟨by (with_reducible repeat (first | apply Kd.R_alloc | apply Kd.R_drewN | apply Kd.R_drew)); exact Kd.R_mono HO257.out (fun _ hk => trivial)⟩, ⟨by repeat (first | (with_reducible first | exact HB.out | apply below_alloc | apply pw_below_drewN | apply below_drew1) | exact HB.out)⟩⟩
          · rw [if_neg c40] at H
            have c40b0 : (t255 == 0) = false := beq_eq_false_iff_ne.mpr c40
            have c40b1 : (t255 != 0) = true := bne_iff_ne.mpr c40
            (first | rw [c40b0] | (simp only [i64_w, i32_w]; rw [c40b0]) | skip)
            have H' := Aside0.mk H
            clear H
            as_aux_lemma =>
              go_wp2
              go_meet
              case rel => exact ⟨_, (true), (by first | rfl | (simp; done) | (simp [*]; done)), H', ⟨by have := HJ3.out; first | omega | exact Nat.le_refl _⟩, ⟨by (with_reducible repeat (first | apply Kd.R_alloc | apply Kd.R_drewN | apply Kd.R_drew)); exact Kd.R_mono HO257.out (fun _ hk => trivial)⟩, ⟨by repeat (first | (with_reducible first | exact HB.out | apply below_alloc | apply pw_below_drewN | apply below_drew1) | exact HB.out)⟩⟩
        case rest =>
          clear HC27
          try clear c1
          try clear c2
          try clear p2
          try clear c4
          try clear c6
          try clear c8
          try clear c9
          try clear c12
          try clear c16
          try clear c40
          try clear c40b0
          try clear c40b1
          try clear c41
          try clear c41b0
          try clear c41b1
          try clear c42
          try clear c42b0
          try clear c42b1
          try clear c43
          try clear c43b0
          try clear c43b1
          try clear c44
          try clear c44b0
          try clear c44b1
          try clear c45
          try clear c45b0
          try clear c45b1
          try clear c46
          try clear c46b0
          try clear c46b1
          try clear c47
          try clear c47b0
          try clear c47b1
          try clear c49
          try clear p2
          obtain ⟨kq, x133_26, rfl, HA, HJ26, HO_7, HB⟩ := hcut
          cases kq with
          | zero => exact absurd HA.out (by simp [galoislaw22_PermGroup.j1])
          | succ kj26 =>
            have H := HA.out
            clear HA
            simp only [galoislaw22_PermGroup.j1] at H
            by_cases c57 : x133_26 = true
            · subst c57
              have H1 : (some false) = some r := by rw [if_pos rfl] at H; exact H
              clear H
              have H := H1
              clear H1
              obtain rfl := Option.some.inj H
              as_aux_lemma =>
                go_wp2
                go_ret
                exact ⟨by first | rfl | (simp [errW_none, errW_some] <;> rfl) | (simp [*, errW_none, errW_some] <;> rfl), by repeat (first | (with_reducible first | exact HB.out | apply below_alloc | apply pw_below_drewN | apply below_drew1) | exact HB.out)⟩
            · replace c57 := Bool.eq_false_iff.mpr c57
              subst c57
              have H1 : ((perm_Sign.f kj26 l0).bind fun bt288 => ((perm_Sign.f kj26 l1).bind fun bt290 => ((perm_Sign.f kj26 t254).bind fun bt292 => ((perm_Conjugate.f kj26 l0 l2).bind fun bt294 => ((perm_Conjugate.f kj26 l1 l2).bind fun bt298 => ((perm_Conjugate.f kj26 t254 l2).bind fun bt302 => ((perm_Mul.f kj26 bt294.1 bt298.1).bind fun bt306 => (if bt288.2 = 0 then (if bt290.2 = 0 then (if bt292.2 = 0 then (if bt294.2 = 0 then (if bt298.2 = 0 then (if bt302.2 = 0 then (if bt306.2 = 0 then (if bt292.1 = (wrap64 (bt288.1 * bt290.1)) then ((galoisref22_Same.f kj26 bt302.1 bt306.1).bind fun t310 => (galoislaw22_PermGroup.j2 kj26 l0 bt294.1 (!t310))) else (galoislaw22_PermGroup.j2 kj26 l0 bt294.1 true)) else (galoislaw22_PermGroup.j2 kj26 l0 bt294.1 true)) else (galoislaw22_PermGroup.j2 kj26 l0 bt294.1 true)) else (galoislaw22_PermGroup.j2 kj26 l0 bt294.1 true)) else (galoislaw22_PermGroup.j2 kj26 l0 bt294.1 true)) else (galoislaw22_PermGroup.j2 kj26 l0 bt294.1 true)) else (galoislaw22_PermGroup.j2 kj26 l0 bt294.1 true)) else (galoislaw22_PermGroup.j2 kj26 l0 bt294.1 true))))))))) = some r := by rw [if_neg (show ¬ (false = true) by decide)] at H; exact H
              clear H
              have H := H1
              clear H1
              replace H := Option.bind_eq_some_iff.mp H
              obtain ⟨⟨t288, t289⟩, A580, H⟩ := H
              replace H : ((perm_Sign.f kj26 l1).bind fun bt290 => ((perm_Sign.f kj26 t254).bind fun bt292 => ((perm_Conjugate.f kj26 l0 l2).bind fun bt294 => ((perm_Conjugate.f kj26 l1 l2).bind fun bt298 => ((perm_Conjugate.f kj26 t254 l2).bind fun bt302 => ((perm_Mul.f kj26 bt294.1 bt298.1).bind fun bt306 => (if t289 = 0 then (if bt290.2 = 0 then (if bt292.2 = 0 then (if bt294.2 = 0 then (if bt298.2 = 0 then (if bt302.2 = 0 then (if bt306.2 = 0 then (if bt292.1 = (wrap64 (t288 * bt290.1)) then ((galoisref22_Same.f kj26 bt302.1 bt306.1).bind fun t310 => (galoislaw22_PermGroup.j2 kj26 l0 bt294.1 (!t310))) else (galoislaw22_PermGroup.j2 kj26 l0 bt294.1 true)) else (galoislaw22_PermGroup.j2 kj26 l0 bt294.1 true)) else (galoislaw22_PermGroup.j2 kj26 l0 bt294.1 true)) else (galoislaw22_PermGroup.j2 kj26 l0 bt294.1 true)) else (galoislaw22_PermGroup.j2 kj26 l0 bt294.1 true)) else (galoislaw22_PermGroup.j2 kj26 l0 bt294.1 true)) else (galoislaw22_PermGroup.j2 kj26 l0 bt294.1 true)) else (galoislaw22_PermGroup.j2 kj26 l0 bt294.1 true)))))))) = some r := H
              have A58 := Aside0.mk A580
              clear A580
              replace H := Option.bind_eq_some_iff.mp H
              obtain ⟨⟨t290, t291⟩, A590, H⟩ := H
              replace H : ((perm_Sign.f kj26 t254).bind fun bt292 => ((perm_Conjugate.f kj26 l0 l2).bind fun bt294 => ((perm_Conjugate.f kj26 l1 l2).bind fun bt298 => ((perm_Conjugate.f kj26 t254 l2).bind fun bt302 => ((perm_Mul.f kj26 bt294.1 bt298.1).bind fun bt306 => (if t289 = 0 then (if t291 = 0 then (if bt292.2 = 0 then (if bt294.2 = 0 then (if bt298.2 = 0 then (if bt302.2 = 0 then (if bt306.2 = 0 then (if bt292.1 = (wrap64 (t288 * t290)) then ((galoisref22_Same.f kj26 bt302.1 bt306.1).bind fun t310 => (galoislaw22_PermGroup.j2 kj26 l0 bt294.1 (!t310))) else (galoislaw22_PermGroup.j2 kj26 l0 bt294.1 true)) else (galoislaw22_PermGroup.j2 kj26 l0 bt294.1 true)) else (galoislaw22_PermGroup.j2 kj26 l0 bt294.1 true)) else (galoislaw22_PermGroup.j2 kj26 l0 bt294.1 true)) else (galoislaw22_PermGroup.j2 kj26 l0 bt294.1 true)) else (galoislaw22_PermGroup.j2 kj26 l0 bt294.1 true)) else (galoislaw22_PermGroup.j2 kj26 l0 bt294.1 true)) else (galoislaw22_PermGroup.j2 kj26 l0 bt294.1 true))))))) = some r := H
              have A59 := Aside0.mk A590
              clear A590
              replace H := Option.bind_eq_some_iff.mp H
              obtain ⟨⟨t292, t293⟩, A600, H⟩ := H
              replace H : ((perm_Conjugate.f kj26 l0 l2).bind fun bt294 => ((perm_Conjugate.f kj26 l1 l2).bind fun bt298 => ((perm_Conjugate.f kj26 t254 l2).bind fun bt302 => ((perm_Mul.f kj26 bt294.1 bt298.1).bind fun bt306 => (if t289 = 0 then (if t291 = 0 then (if t293 = 0 then (if bt294.2 = 0 then (if bt298.2 = 0 then (if bt302.2 = 0 then (if bt306.2 = 0 then (if t292 = (wrap64 (t288 * t290)) then ((galoisref22_Same.f kj26 bt302.1 bt306.1).bind fun t310 => (galoislaw22_PermGroup.j2 kj26 l0 bt294.1 (!t310))) else (galoislaw22_PermGroup.j2 kj26 l0 bt294.1 true)) else (galoislaw22_PermGroup.j2 kj26 l0 bt294.1 true)) else (galoislaw22_PermGroup.j2 kj26 l0 bt294.1 true)) else (galoislaw22_PermGroup.j2 kj26 l0 bt294.1 true)) else (galoislaw22_PermGroup.j2 kj26 l0 bt294.1 true)) else (galoislaw22_PermGroup.j2 kj26 l0 bt294.1 true)) else (galoislaw22_PermGroup.j2 kj26 l0 bt294.1 true)) else (galoislaw22_PermGroup.j2 kj26 l0 bt294.1 true)))))) = some r := H
              have A60 := Aside0.mk A600
              clear A600
              replace H := Option.bind_eq_some_iff.mp H
              obtain ⟨⟨t294, t295⟩, A610, H⟩ := H
              replace H : ((perm_Conjugate.f kj26 l1 l2).bind fun bt298 => ((perm_Conjugate.f kj26 t254 l2).bind fun bt302 => ((perm_Mul.f kj26 t294 bt298.1).bind fun bt306 => (if t289 = 0 then (if t291 = 0 then (if t293 = 0 then (if t295 = 0 then (if bt298.2 = 0 then (if bt302.2 = 0 then (if bt306.2 = 0 then (if t292 = (wrap64 (t288 * t290)) then ((galoisref22_Same.f kj26 bt302.1 bt306.1).bind fun t310 => (galoislaw22_PermGroup.j2 kj26 l0 t294 (!t310))) else (galoislaw22_PermGroup.j2 kj26 l0 t294 true)) else (galoislaw22_PermGroup.j2 kj26 l0 t294 true)) else (galoislaw22_PermGroup.j2 kj26 l0 t294 true)) else (galoislaw22_PermGroup.j2 kj26 l0 t294 true)) else (galoislaw22_PermGroup.j2 kj26 l0 t294 true)) else (galoislaw22_PermGroup.j2 kj26 l0 t294 true)) else (galoislaw22_PermGroup.j2 kj26 l0 t294 true)) else (galoislaw22_PermGroup.j2 kj26 l0 t294 true))))) = some r := H
              have A61 := Aside0.mk A610
              clear A610
              replace H := Option.bind_eq_some_iff.mp H
              obtain ⟨⟨t298, t299⟩, A620, H⟩ := H
              replace H : ((perm_Conjugate.f kj26 t254 l2).bind fun bt302 => ((perm_Mul.f kj26 t294 t298).bind fun bt306 => (if t289 = 0 then (if t291 = 0 then (if t293 = 0 then (if t295 = 0 then (if t299 = 0 then (if bt302.2 = 0 then (if bt306.2 = 0 then (if t292 = (wrap64 (t288 * t290)) then ((galoisref22_Same.f kj26 bt302.1 bt306.1).bind fun t310 => (galoislaw22_PermGroup.j2 kj26 l0 t294 (!t310))) else (galoislaw22_PermGroup.j2 kj26 l0 t294 true)) else (galoislaw22_PermGroup.j2 kj26 l0 t294 true)) else (galoislaw22_PermGroup.j2 kj26 l0 t294 true)) else (galoislaw22_PermGroup.j2 kj26 l0 t294 true)) else (galoislaw22_PermGroup.j2 kj26 l0 t294 true)) else (galoislaw22_PermGroup.j2 kj26 l0 t294 true)) else (galoislaw22_PermGroup.j2 kj26 l0 t294 true)) else (galoislaw22_PermGroup.j2 kj26 l0 t294 true)))) = some r := H
              have A62 := Aside0.mk A620
              clear A620
              replace H := Option.bind_eq_some_iff.mp H
              obtain ⟨⟨t302, t303⟩, A630, H⟩ := H
              replace H : ((perm_Mul.f kj26 t294 t298).bind fun bt306 => (if t289 = 0 then (if t291 = 0 then (if t293 = 0 then (if t295 = 0 then (if t299 = 0 then (if t303 = 0 then (if bt306.2 = 0 then (if t292 = (wrap64 (t288 * t290)) then ((galoisref22_Same.f kj26 t302 bt306.1).bind fun t310 => (galoislaw22_PermGroup.j2 kj26 l0 t294 (!t310))) else (galoislaw22_PermGroup.j2 kj26 l0 t294 true)) else (galoislaw22_PermGroup.j2 kj26 l0 t294 true)) else (galoislaw22_PermGroup.j2 kj26 l0 t294 true)) else (galoislaw22_PermGroup.j2 kj26 l0 t294 true)) else (galoislaw22_PermGroup.j2 kj26 l0 t294 true)) else (galoislaw22_PermGroup.j2 kj26 l0 t294 true)) else (galoislaw22_PermGroup.j2 kj26 l0 t294 true)) else (galoislaw22_PermGroup.j2 kj26 l0 t294 true))) = some r := H
              have A63 := Aside0.mk A630
              clear A630
              replace H := Option.bind_eq_some_iff.mp H
              obtain ⟨⟨t306, t307⟩, A640, H⟩ := H
              replace H : (if t289 = 0 then (if t291 = 0 then (if t293 = 0 then (if t295 = 0 then (if t299 = 0 then (if t303 = 0 then (if t307 = 0 then (if t292 = (wrap64 (t288 * t290)) then ((galoisref22_Same.f kj26 t302 t306).bind fun t310 => (galoislaw22_PermGroup.j2 kj26 l0 t294 (!t310))) else (galoislaw22_PermGroup.j2 kj26 l0 t294 true)) else (galoislaw22_PermGroup.j2 kj26 l0 t294 true)) else (galoislaw22_PermGroup.j2 kj26 l0 t294 true)) else (galoislaw22_PermGroup.j2 kj26 l0 t294 true)) else (galoislaw22_PermGroup.j2 kj26 l0 t294 true)) else (galoislaw22_PermGroup.j2 kj26 l0 t294 true)) else (galoislaw22_PermGroup.j2 kj26 l0 t294 true)) else (galoislaw22_PermGroup.j2 kj26 l0 t294 true)) = some r := H
              have A64 := Aside0.mk A640
              clear A640
              have HC65 := Aside0.mk H
              clear H
              go_upto_region 20 with (first | ((with_reducible refine gate_callee (f := 45) rfl ?_); refine goesL_ (some 136) rfl rfl Tryd.func45 (by kernel_rfl) rfl #[.slice A0 l0.length c0] rfl (by (try simp only [List.map_toArray, List.map_cons, List.map_nil]); first | done | rfl | (simp only [List.length_drop, List.length_take]; rfl)) ?_; (with_reducible refine (perm_Sign.calls kj26 _ _ l0 t288 t289 _ ?side1 ?side2 A58.out).mono ?_); (case side1 => repeat (first | exact (Kd.C_below HR0.out HB.out) | (with_reducible refine Kd.C_alloc ?_ _) | (with_reducible refine Kd.C_drewN ?_ _) | (with_reducible refine Kd.C_drew ?_))); (case side2 => exact HC0.out); rintro e w66 ⟨rfl, hb⟩; refine ⟨_, rfl, ?_⟩; have n0_ := Aside0.mk (Kd.R_below (by (with_reducible repeat (first | apply Kd.R_alloc | apply Kd.R_drewN | apply Kd.R_drew)); exact HO_7.out) hb); have n1_ := Aside0.mk (below_step (by repeat (first | (with_reducible first | exact HB.out | apply below_alloc | apply pw_below_drewN | apply below_drew1) | exact HB.out)) hb); clear HO_7; clear HB; have HO_7 := n0_; have HB := n1_; clear n0_ n1_; (try clear hb); (try clear hb2); (try clear hk); (try clear hi)) | ((with_reducible refine gate_callee (f := 45) rfl ?_); refine goesL_ (some 141) rfl rfl Tryd.func45 (by kernel_rfl) rfl #[.slice A1 l1.length c1] rfl (by (try simp only [List.map_toArray, List.map_cons, List.map_nil]); first | done | rfl | (simp only [List.length_drop, List.length_take]; rfl)) ?_; (with_reducible refine (perm_Sign.calls kj26 _ _ l1 t290 t291 _ ?side1 ?side2 A59.out).mono ?_); (case side1 => repeat (first | exact (Kd.C_below HR1.out HB.out) | (with_reducible refine Kd.C_alloc ?_ _) | (with_reducible refine Kd.C_drewN ?_ _) | (with_reducible refine Kd.C_drew ?_))); (case side2 => exact HC1.out); rintro e w67 ⟨rfl, hb⟩; refine ⟨_, rfl, ?_⟩; have n0_ := Aside0.mk (Kd.R_below (by (with_reducible repeat (first | apply Kd.R_alloc | apply Kd.R_drewN | apply Kd.R_drew)); exact HO_7.out) hb); have n1_ := Aside0.mk (below_step (by repeat (first | (with_reducible first | exact HB.out | apply below_alloc | apply pw_below_drewN | apply below_drew1) | exact HB.out)) hb); clear HO_7; clear HB; have HO_7 := n0_; have HB := n1_; clear n0_ n1_; (try clear hb); (try clear hb2); (try clear hk); (try clear hi)) | ((with_reducible refine gate_callee (f := 45) rfl ?_); refine goesL_ (some 146) rfl rfl Tryd.func45 (by kernel_rfl) rfl #[.slice Ao30 t254.length co30] rfl (by (try simp only [List.map_toArray, List.map_cons, List.map_nil]); first | done | rfl | (simp only [List.length_drop, List.length_take]; rfl)) ?_; (with_reducible refine (perm_Sign.calls kj26 _ _ t254 t292 t293 _ ?side1 ?side2 A60.out).mono ?_); (case side1 => repeat (first | exact (Kd.R_reads' HO_7.out).2.2 | (with_reducible refine Kd.C_alloc ?_ _) | (with_reducible refine Kd.C_drewN ?_ _) | (with_reducible refine Kd.C_drew ?_))); (case side2 => exact (Kd.R_reads' HO_7.out).2.1); rintro e w68 ⟨rfl, hb⟩; refine ⟨_, rfl, ?_⟩; have n0_ := Aside0.mk (Kd.R_below (by (with_reducible repeat (first | apply Kd.R_alloc | apply Kd.R_drewN | apply Kd.R_drew)); exact HO_7.out) hb); have n1_ := Aside0.mk (below_step (by repeat (first | (with_reducible first | exact HB.out | apply below_alloc | apply pw_below_drewN | apply below_drew1) | exact HB.out)) hb); clear HO_7; clear HB; have HO_7 := n0_; have HB := n1_; clear n0_ n1_; (try clear hb); (try clear hb2); (try clear hk); (try clear hi)) | ((with_reducible refine gate_callee (f := 28) rfl ?_); refine goesL_ (some 152) rfl rfl Tryd.func28 (by kernel_rfl) rfl #[.slice A0 l0.length c0, .slice A2 l2.length c2] rfl (by (try simp only [List.map_toArray, List.map_cons, List.map_nil]); first | done | rfl | (simp only [List.length_drop, List.length_take]; rfl)) ?_; (with_reducible refine (perm_Conjugate.calls kj26 _ _ l0 _ _ l2 t294 t295 _ ?side1 ?side2 ?side3 ?side4 A61.out).mono ?_); (case side1 => repeat (first | exact (Kd.C_below HR0.out HB.out) | (with_reducible refine Kd.C_alloc ?_ _) | (with_reducible refine Kd.C_drewN ?_ _) | (with_reducible refine Kd.C_drew ?_))); (case side2 => exact HC0.out); (case side3 => repeat (first | exact (Kd.C_below HR2.out HB.out) | (with_reducible refine Kd.C_alloc ?_ _) | (with_reducible refine Kd.C_drewN ?_ _) | (with_reducible refine Kd.C_drew ?_))); (case side4 => exact HC2.out); rintro e w69 ⟨v296, rfl, ho0, hb⟩; refine ⟨_, rfl, ?_⟩; have n0_ := Aside0.mk (Kd.R_elder' (by (with_reducible repeat (first | apply Kd.R_alloc | apply Kd.R_drewN | apply Kd.R_drew)); exact HO_7.out) (Kd.R_base ho0) hb); have n1_ := Aside0.mk (Kd.R_lower (Kd.R_new' ho0 (Kd.R_lt (by (with_reducible repeat (first | apply Kd.R_alloc | apply Kd.R_drewN | apply Kd.R_drew)); exact HO_7.out))) (below_size (by repeat (first | (with_reducible first | exact HB.out | apply below_alloc | apply pw_below_drewN | apply below_drew1) | exact HB.out)))); have n2_ := Aside0.mk (below_step (by repeat (first | (with_reducible first | exact HB.out | apply below_alloc | apply pw_below_drewN | apply below_drew1) | exact HB.out)) hb); clear HO_7; clear HB; have HO_7 := n0_; have HO297 := n1_; have HB := n2_; clear n0_ n1_ n2_; (try clear hb); (try clear hb2); (try clear hk); (try clear hi); (try clear ho0)) | ((with_reducible refine gate_callee (f := 28) rfl ?_); refine goesL_ (some 158) rfl rfl Tryd.func28 (by kernel_rfl) rfl #[.slice A1 l1.length c1, .slice A2 l2.length c2] rfl (by (try simp only [List.map_toArray, List.map_cons, List.map_nil]); first | done | rfl | (simp only [List.length_drop, List.length_take]; rfl)) ?_; (with_reducible refine (perm_Conjugate.calls kj26 _ _ l1 _ _ l2 t298 t299 _ ?side1 ?side2 ?side3 ?side4 A62.out).mono ?_); (case side1 => repeat (first | exact (Kd.C_below HR1.out HB.out) | (with_reducible refine Kd.C_alloc ?_ _) | (with_reducible refine Kd.C_drewN ?_ _) | (with_reducible refine Kd.C_drew ?_))); (case side2 => exact HC1.out); (case side3 => repeat (first | exact (Kd.C_below HR2.out HB.out) | (with_reducible refine Kd.C_alloc ?_ _) | (with_reducible refine Kd.C_drewN ?_ _) | (with_reducible refine Kd.C_drew ?_))); (case side4 => exact HC2.out); rintro e w70 ⟨v300, rfl, ho0, hb⟩; refine ⟨_, rfl, ?_⟩; have n0_ := Aside0.mk (Kd.R_elder' (by (with_reducible repeat (first | apply Kd.R_alloc | apply Kd.R_drewN | apply Kd.R_drew)); exact HO_7.out) (Kd.R_base ho0) hb); have n1_ := Aside0.mk (Kd.R_elder' (by (with_reducible repeat (first | apply Kd.R_alloc | apply Kd.R_drewN | apply Kd.R_drew)); exact HO297.out) (Kd.R_base ho0) hb); have n2_ := Aside0.mk (Kd.R_lower (Kd.R_new' (Kd.R_new' ho0 (Kd.R_lt (by (with_reducible repeat (first | apply Kd.R_alloc | apply Kd.R_drewN | apply Kd.R_drew)); exact HO_7.out))) (Kd.R_lt (by (with_reducible repeat (first | apply Kd.R_alloc | apply Kd.R_drewN | apply Kd.R_drew)); exact HO297.out))) (below_size (by repeat (first | (with_reducible first | exact HB.out | apply below_alloc | apply pw_below_drewN | apply below_drew1) | exact HB.out)))); have n3_ := Aside0.mk (below_step (by repeat (first | (with_reducible first | exact HB.out | apply below_alloc | apply pw_below_drewN | apply below_drew1) | exact HB.out)) hb); clear HO_7; clear HO297; clear HB; have HO_7 := n0_; have HO297 := n1_; have HO301 := n2_; have HB := n3_; clear n0_ n1_ n2_ n3_; (try clear hb); (try clear hb2); (try clear hk); (try clear hi); (try clear ho0)) | ((with_reducible refine gate_callee (f := 28) rfl ?_); refine goesL_ (some 164) rfl rfl Tryd.func28 (by kernel_rfl) rfl #[.slice Ao30 t254.length co30, .slice A2 l2.length c2] rfl (by (try simp only [List.map_toArray, List.map_cons, List.map_nil]); first | done | rfl | (simp only [List.length_drop, List.length_take]; rfl)) ?_; (with_reducible refine (perm_Conjugate.calls kj26 _ _ t254 _ _ l2 t302 t303 _ ?side1 ?side2 ?side3 ?side4 A63.out).mono ?_); (case side1 => repeat (first | exact (Kd.R_reads' HO_7.out).2.2 | (with_reducible refine Kd.C_alloc ?_ _) | (with_reducible refine Kd.C_drewN ?_ _) | (with_reducible refine Kd.C_drew ?_))); (case side2 => exact (Kd.R_reads' HO_7.out).2.1); (case side3 => repeat (first | exact (Kd.C_below HR2.out HB.out) | (with_reducible refine Kd.C_alloc ?_ _) | (with_reducible refine Kd.C_drewN ?_ _) | (with_reducible refine Kd.C_drew ?_))); (case side4 => exact HC2.out); rintro e w71 ⟨v304, rfl, ho0, hb⟩; refine ⟨_, rfl, ?_⟩; have n0_ := Aside0.mk (Kd.R_elder' (by (with_reducible repeat (first | apply Kd.R_alloc | apply Kd.R_drewN | apply Kd.R_drew)); exact HO_7.out) (Kd.R_base ho0) hb); have n1_ := Aside0.mk (Kd.R_elder' (by (with_reducible repeat (first | apply Kd.R_alloc | apply Kd.R_drewN | apply Kd.R_drew)); exact HO297.out) (Kd.R_base ho0) hb); have n2_ := Aside0.mk (Kd.R_elder' (by (with_reducible repeat (first | apply Kd.R_alloc | apply Kd.R_drewN | apply Kd.R_drew)); exact HO301.out) (Kd.R_base ho0) hb); have n3_ := Aside0.mk (Kd.R_lower (Kd.R_new' (Kd.R_new' (Kd.R_new' ho0 (Kd.R_lt (by (with_reducible repeat (first | apply Kd.R_alloc | apply Kd.R_drewN | apply Kd.R_drew)); exact HO_7.out))) (Kd.R_lt (by (with_reducible repeat (first | apply Kd.R_alloc | apply Kd.R_drewN | apply Kd.R_drew)); exact HO297.out))) (Kd.R_lt (by (with_reducible repeat (first | apply Kd.R_alloc | apply Kd.R_drewN | apply Kd.R_drew)); exact HO301.out))) (below_size (by repeat (first | (with_reducible first | exact HB.out | apply below_alloc | apply pw_below_drewN | apply below_drew1) | exact HB.out)))); have n4_ := Aside0.mk (below_step (by repeat (first | (with_reducible first | exact HB.out | apply below_alloc | apply pw_below_drewN | apply below_drew1) | exact HB.out)) hb); clear HO_7; clear HO297; clear HO301; clear HB; have HO_7 := n0_; have HO297 := n1_; have HO301 := n2_; have HO305 := n3_; have HB := n4_; clear n0_ n1_ n2_ n3_ n4_; (try clear hb); (try clear hb2); (try clear hk); (try clear hi); (try clear ho0); obtain ⟨Ao72, co72, eo72⟩ := Kd.R_slice HO297.out; subst eo72; obtain ⟨Ao73, co73, eo73⟩ := Kd.R_slice HO301.out; subst eo73) | ((with_reducible refine gate_callee (f := 16) rfl ?_); refine goesL_ (some 170) rfl rfl Tryd.func16 (by kernel_rfl) rfl #[.slice Ao72 t294.length co72, .slice Ao73 t298.length co73] rfl (by (try simp only [List.map_toArray, List.map_cons, List.map_nil]); first | done | rfl | (simp only [List.length_drop, List.length_take]; rfl)) ?_; (with_reducible refine (perm_Mul.calls kj26 _ _ t294 _ _ t298 t306 t307 _ ?side1 ?side2 ?side3 ?side4 A64.out).mono ?_); (case side1 => repeat (first | exact (Kd.R_reads' HO297.out).2.2 | (with_reducible refine Kd.C_alloc ?_ _) | (with_reducible refine Kd.C_drewN ?_ _) | (with_reducible refine Kd.C_drew ?_))); (case side2 => exact (Kd.R_reads' HO297.out).2.1); (case side3 => repeat (first | exact (Kd.R_reads' HO301.out).2.2 | (with_reducible refine Kd.C_alloc ?_ _) | (with_reducible refine Kd.C_drewN ?_ _) | (with_reducible refine Kd.C_drew ?_))); (case side4 => exact (Kd.R_reads' HO301.out).2.1); rintro e w74 ⟨v308, rfl, ho0, hb⟩; refine ⟨_, rfl, ?_⟩; have n0_ := Aside0.mk (Kd.R_elder' (by (with_reducible repeat (first | apply Kd.R_alloc | apply Kd.R_drewN | apply Kd.R_drew)); exact HO_7.out) (Kd.R_base ho0) hb); have n1_ := Aside0.mk (Kd.R_elder' (by (with_reducible repeat (first | apply Kd.R_alloc | apply Kd.R_drewN | apply Kd.R_drew)); exact HO297.out) (Kd.R_base ho0) hb); have n2_ := Aside0.mk (Kd.R_elder' (by (with_reducible repeat (first | apply Kd.R_alloc | apply Kd.R_drewN | apply Kd.R_drew)); exact HO301.out) (Kd.R_base ho0) hb); have n3_ := Aside0.mk (Kd.R_elder' (by (with_reducible repeat (first | apply Kd.R_alloc | apply Kd.R_drewN | apply Kd.R_drew)); exact HO305.out) (Kd.R_base ho0) hb); have n4_ := Aside0.mk (Kd.R_lower (Kd.R_new' (Kd.R_new' (Kd.R_new' (Kd.R_new' ho0 (Kd.R_lt (by (with_reducible repeat (first | apply Kd.R_alloc | apply Kd.R_drewN | apply Kd.R_drew)); exact HO_7.out))) (Kd.R_lt (by (with_reducible repeat (first | apply Kd.R_alloc | apply Kd.R_drewN | apply Kd.R_drew)); exact HO297.out))) (Kd.R_lt (by (with_reducible repeat (first | apply Kd.R_alloc | apply Kd.R_drewN | apply Kd.R_drew)); exact HO301.out))) (Kd.R_lt (by (with_reducible repeat (first | apply Kd.R_alloc | apply Kd.R_drewN | apply Kd.R_drew)); exact HO305.out))) (below_size (by repeat (first | (with_reducible first | exact HB.out | apply below_alloc | apply pw_below_drewN | apply below_drew1) | exact HB.out)))); have n5_ := Aside0.mk (below_step (by repeat (first | (with_reducible first | exact HB.out | apply below_alloc | apply pw_below_drewN | apply below_drew1) | exact HB.out)) hb); clear HO_7; clear HO297; clear HO301; clear HO305; clear HB; have HO_7 := n0_; have HO297 := n1_; have HO301 := n2_; have HO305 := n3_; have HO309 := n4_; have HB := n5_; clear n0_ n1_ n2_ n3_ n4_ n5_; (try clear hb); (try clear hb2); (try clear hk); (try clear hi); (try clear ho0)))
              (try simp only [Act.put, List.setIfInBounds_toArray, List.set_cons_zero, List.set_cons_succ])
              go_cut [211] (fun v211 wc => ∃ (kq : Nat) (x211_64 : Bool), v211 = .bool x211_64 ∧ Aside0 (galoislaw22_PermGroup.j2 kq l0 t294 x211_64 = some r) ∧ Aside0 (kq ≤ kj26) ∧ Aside0 (Kd.R (Kd.int .i64) 3 wc w.heap.size (fun _ => True) (.slice Ao72 t294.length co72) t294) ∧ Aside0 (Below w.heap.size w wc))
              case first =>
                have H := HC65.out
                clear HC65
                by_cases c75 : t289 = 0
                · rw [if_pos c75] at H
                  have c75b0 : (t289 == 0) = true := beq_iff_eq.mpr c75
                  have c75b1 : (t289 != 0) = false := bne_eq_false_iff_eq.mpr c75
                  clear c75
                  (first | rw [c75b0] | (simp only [i64_w, i32_w]; rw [c75b0]) | skip)
                  by_cases c76 : t291 = 0
                  · rw [if_pos c76] at H
                    have c76b0 : (t291 == 0) = true := beq_iff_eq.mpr c76
                    have c76b1 : (t291 != 0) = false := bne_eq_false_iff_eq.mpr c76
                    clear c76
                    by_cases c77 : t293 = 0
                    · rw [if_pos c77] at H
                      have c77b0 : (t293 == 0) = true := beq_iff_eq.mpr c77
                      have c77b1 : (t293 != 0) = false := bne_eq_false_iff_eq.mpr c77
                      clear c77
                      by_cases c78 : t295 = 0
                      · rw [if_pos c78] at H
                        have c78b0 : (t295 == 0) = true := beq_iff_eq.mpr c78
                        have c78b1 : (t295 != 0) = false := bne_eq_false_iff_eq.mpr c78
                        clear c78
                        by_cases c79 : t299 = 0
                        · rw [if_pos c79] at H
                          have c79b0 : (t299 == 0) = true := beq_iff_eq.mpr c79
                          have c79b1 : (t299 != 0) = false := bne_eq_false_iff_eq.mpr c79
                          clear c79
                          by_cases c80 : t303 = 0
                          · rw [if_pos c80] at H
                            have c80b0 : (t303 == 0) = true := beq_iff_eq.mpr c80
                            have c80b1 : (t303 != 0) = false := bne_eq_false_iff_eq.mpr c80
                            clear c80
                            by_cases c81 : t307 = 0
                            · rw [if_pos c81] at H
                              have c81b0 : (t307 == 0) = true := beq_iff_eq.mpr c81
                              have c81b1 : (t307 != 0) = false := bne_eq_false_iff_eq.mpr c81
                              clear c81
                              by_cases c82 : t292 = (wrap64 (t288 * t290))
                              · rw [if_pos c82] at H
                                have c82b0 : (t292 == (wrap64 (t288 * t290))) = true := beq_iff_eq.mpr c82
                                have c82b1 : (t292 != (wrap64 (t288 * t290))) = false := bne_eq_false_iff_eq.mpr c82
                                clear c82
                                replace H := Option.bind_eq_some_iff.mp H
                                obtain ⟨t310, A830, H⟩ := H
                                replace H : (galoislaw22_PermGroup.j2 kj26 l0 t294 (!t310)) = some r := H
                                have A83 := Aside0.mk A830
                                clear A830
                                have H' := Aside0.mk H
                                clear H
                                obtain ⟨Ao84, co84, eo84⟩ := Kd.R_slice HO305.out
                                subst eo84
                                obtain ⟨Ao85, co85, eo85⟩ := Kd.R_slice HO309.out
                                subst eo85
                                as_aux_lemma =>
                                  go_wp2_with (first | (go_at_call 19; (with_reducible refine (galoisref22_Same.calls kj26 _ _ t302 _ _ t306 t310 _ ?side1 ?side2 ?side3 ?side4 A83.out).mono ?_); (case side1 => repeat (first | exact (Kd.R_reads' HO305.out).2.2 | (with_reducible refine Kd.C_alloc ?_ _) | (with_reducible refine Kd.C_drewN ?_ _) | (with_reducible refine Kd.C_drew ?_))); (case side2 => exact (Kd.R_reads' HO305.out).2.1); (case side3 => repeat (first | exact (Kd.R_reads' HO309.out).2.2 | (with_reducible refine Kd.C_alloc ?_ _) | (with_reducible refine Kd.C_drewN ?_ _) | (with_reducible refine Kd.C_drew ?_))); (case side4 => exact (Kd.R_reads' HO309.out).2.1); rintro e w' ⟨rfl, ⟨nd, rfl⟩⟩))
                                  go_meet
                                  case rel => exact ⟨_, (!t310), (by first | rfl | (simp; done) | (simp [*]; done)), H', ⟨by have := HJ3.out; have := HJ26.out; first | omega | exact Nat.le_refl _⟩, ⟨by (with_reducible repeat (first | apply Kd.R_alloc | apply Kd.R_drewN | apply Kd.R_drew)); exact Kd.R_mono HO297.out (fun _ hk => trivial)⟩, ⟨by repeat (first | (with_reducible first | exact HB.out | apply below_alloc | apply pw_below_drewN | apply below_drew1) | exact HB.out)⟩⟩
                              · rw [if_neg c82] at H
                                have c82b0 : (t292 == (wrap64 (t288 * t290))) = false := beq_eq_false_iff_ne.mpr c82
                                have c82b1 : (t292 != (wrap64 (t288 * t290))) = true := bne_iff_ne.mpr c82
                                have H' := Aside0.mk H
                                clear H
                                as_aux_lemma =>
                                  go_wp2
                                  go_meet
                                  case rel => exact ⟨_, (true), (by first | rfl | (simp; done) | (simp [*]; done)), H', ⟨by have := HJ3.out; have := HJ26.out; first | omega | exact Nat.le_refl _⟩, ⟨by (with_reducible repeat (first | apply Kd.R_alloc | apply Kd.R_drewN | apply Kd.R_drew)); exact Kd.R_mono HO297.out (fun _ hk => trivial)⟩, ⟨by repeat (first | (with_reducible first | exact HB.out | apply below_alloc | apply pw_below_drewN | apply below_drew1) | exact HB.out)⟩⟩
                            · rw [if_neg c81] at H
                              have c81b0 : (t307 == 0) = false := beq_eq_false_iff_ne.mpr c81
                              have c81b1 : (t307 != 0) = true := bne_iff_ne.mpr c81
                              have H' := Aside0.mk H
                              clear H
                              as_aux_lemma =>
                                go_wp2
                                go_meet
                                case rel => exact ⟨_, (true), (by first | rfl | (simp; done) | (simp [*]; done)), H', ⟨by have := HJ3.out; have := HJ26.out; first | omega | exact Nat.le_refl _⟩, ⟨by (with_reducible repeat (first | apply Kd.R_alloc | apply Kd.R_drewN | apply Kd.R_drew)); exact Kd.R_mono HO297.out (fun _ hk => trivial)⟩, ⟨by repeat (first | (with_reducible first | exact HB.out | apply below_alloc | apply pw_below_drewN | apply below_drew1) | exact HB.out)⟩⟩
                          · rw [if_neg c80] at H
                            have c80b0 : (t303 == 0) = false := beq_eq_false_iff_ne.mpr c80
                            have c80b1 : (t303 != 0) = true := bne_iff_ne.mpr c80
                            have H' := Aside0.mk H
                            clear H
                            as_aux_lemma =>
                              go_wp2
                              go_meet
                              case rel => exact ⟨_, (true), (by first | rfl | (simp; done) | (simp [*]; done)), H', ⟨by have := HJ3.out; have := HJ26.out; first | omega | exact Nat.le_refl _⟩, ⟨by (with_reducible repeat (first | apply Kd.R_alloc | apply Kd.R_drewN | apply Kd.R_drew)); exact Kd.R_mono HO297.out (fun _ hk => trivial)⟩, ⟨by repeat (first | (with_reducible first | exact HB.out | apply below_alloc | apply pw_below_drewN | apply below_drew1) | exact HB.out)⟩⟩
                        · rw [if_neg c79] at H
                          have c79b0 : (t299 == 0) = false := beq_eq_false_iff_ne.mpr c79
                          have c79b1 : (t299 != 0) = true := bne_iff_ne.mpr c79
                          have H' := Aside0.mk H
                          clear H
                          as_aux_lemma =>
                            go_wp2
                            go_meet
                            case rel => exact ⟨_, (true), (by first | rfl | (simp; done) | (simp [*]; done)), H', ⟨by have := HJ3.out; have := HJ26.out; first | omega | exact Nat.le_refl _⟩, ⟨by (with_reducible repeat (first | apply Kd.R_alloc | apply Kd.R_drewN | apply Kd.R_drew)); exact Kd.R_mono HO297.out (fun _ hk => trivial)⟩, ⟨by repeat (first | (with_reducible first | exact HB.out | apply below_alloc | apply pw_below_drewN | apply below_drew1) | exact HB.out)⟩⟩
                      · rw [if_neg c78] at H
                        have c78b0 : (t295 == 0) = false := beq_eq_false_iff_ne.mpr c78
                        have c78b1 : (t295 != 0) = true := bne_iff_ne.mpr c78
                        have H' := Aside0.mk H
                        clear H
                        as_aux_lemma =>
                          go_wp2
                          go_meet
                          case rel => exact ⟨_, (true), (by first | rfl | (simp; done) | (simp [*]; done)), H', ⟨by have := HJ3.out; have := HJ26.out; first | omega | exact Nat.le_refl _⟩, ⟨by (with_reducible repeat (first | apply Kd.R_alloc | apply Kd.R_drewN | apply Kd.R_drew)); exact Kd.R_mono HO297.out (fun _ hk => trivial)⟩, ⟨by repeat (first | (with_reducible first | exact HB.out | apply below_alloc | apply pw_below_drewN | apply below_drew1) | exact HB.out)⟩⟩
                    · rw [if_neg c77] at H
                      have c77b0 : (t293 == 0) = false := beq_eq_false_iff_ne.mpr c77
                      have c77b1 : (t293 != 0) = true := bne_iff_ne.mpr c77
                      have H' := Aside0.mk H
                      clear H
                      as_aux_lemma =>
                        go_wp2
                        go_meet
                        case rel => exact ⟨_, (true), (by first | rfl | (simp; done) | (simp [*]; done)), H', ⟨by have := HJ3.out; have := HJ26.out; first | omega | exact Nat.le_refl _⟩, ⟨by (with_reducible repeat (first | apply Kd.R_alloc | apply Kd.R_drewN | apply Kd.R_drew)); exact Kd.R_mono HO297.out (fun _ hk => trivial)⟩, ⟨by repeat (first | (with_reducible first | exact HB.out | apply below_alloc | apply pw_below_drewN | apply below_drew1) | exact HB.out)⟩⟩
                  · rw [if_neg c76] at H
                    have c76b0 : (t291 == 0) = false := beq_eq_false_iff_ne.mpr c76
                    have c76b1 : (t291 != 0) = true := bne_iff_ne.mpr c76
                    have H' := Aside0.mk H
                    clear H
                    as_aux_lemma =>
                      go_wp2
                      go_meet
                      case rel => exact ⟨_, (true), (by first | rfl | (simp; done) | (simp [*]; done)), H', ⟨by have := HJ3.out; have := HJ26.out; first | omega | exact Nat.le_refl _⟩, ⟨by (with_reducible repeat (first | apply Kd.R_alloc | apply Kd.R_drewN | apply Kd.R_drew)); exact Kd.R_mono HO297.out (fun _ hk => trivial)⟩, ⟨by repeat (first | (with_reducible first | exact HB.out | apply below_alloc | apply pw_below_drewN | apply below_drew1) | exact HB.out)⟩⟩
                · rw [if_neg c75] at H
                  have c75b0 : (t289 == 0) = false := beq_eq_false_iff_ne.mpr c75
                  have c75b1 : (t289 != 0) = true := bne_iff_ne.mpr c75
                  (first | rw [c75b0] | (simp only [i64_w, i32_w]; rw [c75b0]) | skip)
                  have H' := Aside0.mk H
                  clear H
                  as_aux_lemma =>
                    go_wp2
                    go_meet
                    case rel => exact ⟨_, (true), (by first | rfl | (simp; done) | (simp [*]; done)), H', ⟨by have := HJ3.out; have := HJ26.out; first | omega | exact Nat.le_refl _⟩, ⟨by (with_reducible repeat (first | apply Kd.R_alloc | apply Kd.R_drewN | apply Kd.R_drew)); exact Kd.R_mono HO297.out (fun _ hk => trivial)⟩, ⟨by repeat (first | (with_reducible first | exact HB.out | apply below_alloc | apply pw_below_drewN | apply below_drew1) | exact HB.out)⟩⟩
              case rest =>
                clear HC65
                try clear c1
                try clear c2
                try clear p2
                try clear c4
                try clear c5
                try clear c6
                try clear p6
                try clear c7
                try clear c8
                try clear c9
                try clear c12
                try clear c16
                try clear c28
                try clear c40
                try clear c40b0
                try clear c40b1
                try clear c41
                try clear c41b0
                try clear c41b1
                try clear c42
                try clear c42b0
                try clear c42b1
                try clear c43
                try clear c43b0
                try clear c43b1
                try clear c44
                try clear c44b0
                try clear c44b1
                try clear c45
                try clear c45b0
                try clear c45b1
                try clear c46
                try clear c46b0
                try clear c46b1
                try clear c47
                try clear c47b0
                try clear c47b1
                try clear c49
                try clear c57
                try clear p64
                try clear c75
                try clear c75b0
                try clear c75b1
                try clear c76
                try clear c76b0
                try clear c76b1
                try clear c77
                try clear c77b0
                try clear c77b1
                try clear c78
                try clear c78b0
                try clear c78b1
                try clear c79
                try clear c79b0
                try clear c79b1
                try clear c80
                try clear c80b0
                try clear c80b1
                try clear c81
                try clear c81b0
                try clear c81b1
                try clear c82
                try clear c82b0
                try clear c82b1
                try clear p2
                obtain ⟨kq, x211_64, rfl, HA, HJ64, HO_26, HB⟩ := hcut
                cases kq with
                | zero => exact absurd HA.out (by simp [galoislaw22_PermGroup.j2])
                | succ kj64 =>
                  have H := HA.out
                  clear HA
                  simp only [galoislaw22_PermGroup.j2] at H
                  by_cases c86 : x211_64 = true
                  · subst c86
                    have H1 : (some false) = some r := by rw [if_pos rfl] at H; exact H
                    clear H
                    have H := H1
                    clear H1
                    obtain rfl := Option.some.inj H
                    as_aux_lemma =>
                      go_wp2
                      go_ret
                      exact ⟨by first | rfl | (simp [errW_none, errW_some] <;> rfl) | (simp [*, errW_none, errW_some] <;> rfl), by repeat (first | (with_reducible first | exact HB.out | apply below_alloc | apply pw_below_drewN | apply below_drew1) | exact HB.out)⟩
                  · replace c86 := Bool.eq_false_iff.mpr c86
                    subst c86
                    have H1 : ((perm_Type.f kj64 l0).bind fun bt311 => ((perm_Type.f kj64 t294).bind fun bt315 => (if bt311.2 = 0 then (if bt315.2 = 0 then ((galoisref22_Same.f kj64 bt311.1 bt315.1).bind fun t319 => (some t319)) else (some false)) else (some false)))) = some r := by rw [if_neg (show ¬ (false = true) by decide)] at H; exact H
                    clear H
                    have H := H1
                    clear H1
                    replace H := Option.bind_eq_some_iff.mp H
                    obtain ⟨⟨t311, t312⟩, A870, H⟩ := H
                    replace H : ((perm_Type.f kj64 t294).bind fun bt315 => (if t312 = 0 then (if bt315.2 = 0 then ((galoisref22_Same.f kj64 t311 bt315.1).bind fun t319 => (some t319)) else (some false)) else (some false))) = some r := H
                    have A87 := Aside0.mk A870
                    clear A870
                    replace H := Option.bind_eq_some_iff.mp H
                    obtain ⟨⟨t315, t316⟩, A880, H⟩ := H
                    replace H : (if t312 = 0 then (if t316 = 0 then ((galoisref22_Same.f kj64 t311 t315).bind fun t319 => (some t319)) else (some false)) else (some false)) = some r := H
                    have A88 := Aside0.mk A880
                    clear A880
                    by_cases c89 : t312 = 0
                    · rw [if_pos c89] at H
                      have c89b0 : (t312 == 0) = true := beq_iff_eq.mpr c89
                      have c89b1 : (t312 != 0) = false := bne_eq_false_iff_eq.mpr c89
                      clear c89
                      by_cases c90 : t316 = 0
                      · rw [if_pos c90] at H
                        have c90b0 : (t316 == 0) = true := beq_iff_eq.mpr c90
                        have c90b1 : (t316 != 0) = false := bne_eq_false_iff_eq.mpr c90
                        clear c90
                        replace H := Option.bind_eq_some_iff.mp H
                        obtain ⟨t319, A910, H⟩ := H
                        replace H : (some t319) = some r := H
                        have A91 := Aside0.mk A910
                        clear A910
                        obtain rfl := Option.some.inj H
                        as_aux_lemma =>
                          go_wp2_with (first | ((with_reducible refine gate_callee (f := 37) rfl ?_); refine goesL_ (some 214) rfl rfl Tryd.func37 (by kernel_rfl) rfl #[.slice A0 l0.length c0] rfl (by (try simp only [List.map_toArray, List.map_cons, List.map_nil]); first | done | rfl | (simp only [List.length_drop, List.length_take]; rfl)) ?_; (with_reducible refine (perm_Type.calls kj64 _ _ l0 t311 t312 _ ?side1 ?side2 A87.out).mono ?_); (case side1 => repeat (first | exact (Kd.C_below HR0.out HB.out) | (with_reducible refine Kd.C_alloc ?_ _) | (with_reducible refine Kd.C_drewN ?_ _) | (with_reducible refine Kd.C_drew ?_))); (case side2 => exact HC0.out); rintro e w92 ⟨v313, rfl, ho0, hb⟩; refine ⟨_, rfl, ?_⟩; have n0_ := Aside0.mk (Kd.R_elder' (by (with_reducible repeat (first | apply Kd.R_alloc | apply Kd.R_drewN | apply Kd.R_drew)); exact HO_26.out) (Kd.R_base ho0) hb); have n1_ := Aside0.mk (Kd.R_lower (Kd.R_new' ho0 (Kd.R_lt (by (with_reducible repeat (first | apply Kd.R_alloc | apply Kd.R_drewN | apply Kd.R_drew)); exact HO_26.out))) (below_size (by repeat (first | (with_reducible first | exact HB.out | apply below_alloc | apply pw_below_drewN | apply below_drew1) | exact HB.out)))); have n2_ := Aside0.mk (below_step (by repeat (first | (with_reducible first | exact HB.out | apply below_alloc | apply pw_below_drewN | apply below_drew1) | exact HB.out)) hb); clear HO_26; clear HB; have HO_26 := n0_; have HO314 := n1_; have HB := n2_; clear n0_ n1_ n2_; (try clear hb); (try clear hb2); (try clear hk); (try clear hi); (try clear ho0)) | ((with_reducible refine gate_callee (f := 37) rfl ?_); refine goesL_ (some 219) rfl rfl Tryd.func37 (by kernel_rfl) rfl #[.slice Ao72 t294.length co72] rfl (by (try simp only [List.map_toArray, List.map_cons, List.map_nil]); first | done | rfl | (simp only [List.length_drop, List.length_take]; rfl)) ?_; (with_reducible refine (perm_Type.calls kj64 _ _ t294 t315 t316 _ ?side1 ?side2 A88.out).mono ?_); (case side1 => repeat (first | exact (Kd.R_reads' HO_26.out).2.2 | (with_reducible refine Kd.C_alloc ?_ _) | (with_reducible refine Kd.C_drewN ?_ _) | (with_reducible refine Kd.C_drew ?_))); (case side2 => exact (Kd.R_reads' HO_26.out).2.1); rintro e w93 ⟨v317, rfl, ho0, hb⟩; refine ⟨_, rfl, ?_⟩; have n0_ := Aside0.mk (Kd.R_elder' (by (with_reducible repeat (first | apply Kd.R_alloc | apply Kd.R_drewN | apply Kd.R_drew)); exact HO_26.out) (Kd.R_base ho0) hb); have n1_ := Aside0.mk (Kd.R_elder' (by (with_reducible repeat (first | apply Kd.R_alloc | apply Kd.R_drewN | apply Kd.R_drew)); exact HO314.out) (Kd.R_base ho0) hb); have n2_ := Aside0.mk (Kd.R_lower (Kd.R_new' (Kd.R_new' ho0 (Kd.R_lt (by (with_reducible repeat (first | apply Kd.R_alloc | apply Kd.R_drewN | apply Kd.R_drew)); exact HO_26.out))) (Kd.R_lt (by (with_reducible repeat (first | apply Kd.R_alloc | apply Kd.R_drewN | apply Kd.R_drew)); exact HO314.out))) (below_size (by repeat (first | (with_reducible first | exact HB.out | apply below_alloc | apply pw_below_drewN | apply below_drew1) | exact HB.out)))); have n3_ := Aside0.mk (below_step (by repeat (first | (with_reducible first | exact HB.out | apply below_alloc | apply pw_below_drewN | apply below_drew1) | exact HB.out)) hb); clear HO_26; clear HO314; clear HB; have HO_26 := n0_; have HO314 := n1_; have HO318 := n2_; have HB := n3_; clear n0_ n1_ n2_ n3_; (try clear hb); (try clear hb2); (try clear hk); (try clear hi); (try clear ho0); obtain ⟨Ao94, co94, eo94⟩ := Kd.R_slice HO314.out; subst eo94; obtain ⟨Ao95, co95, eo95⟩ := Kd.R_slice HO318.out; subst eo95) | (go_at_call 19; (with_reducible refine (galoisref22_Same.calls kj64 _ _ t311 _ _ t315 t319 _ ?side1 ?side2 ?side3 ?side4 A91.out).mono ?_); (case side1 => repeat (first | exact (Kd.R_reads' HO314.out).2.2 | (with_reducible refine Kd.C_alloc ?_ _) | (with_reducible refine Kd.C_drewN ?_ _) | (with_reducible refine Kd.C_drew ?_))); (case side2 => exact (Kd.R_reads' HO314.out).2.1); (case side3 => repeat (first | exact (Kd.R_reads' HO318.out).2.2 | (with_reducible refine Kd.C_alloc ?_ _) | (with_reducible refine Kd.C_drewN ?_ _) | (with_reducible refine Kd.C_drew ?_))); (case side4 => exact (Kd.R_reads' HO318.out).2.1); rintro e w' ⟨rfl, ⟨nd, rfl⟩⟩))
                          go_ret
                          exact ⟨by first | rfl | (simp [errW_none, errW_some] <;> rfl) | (simp [*, errW_none, errW_some] <;> rfl), by repeat (first | (with_reducible first | exact HB.out | apply below_alloc | apply pw_below_drewN | apply below_drew1) | exact HB.out)⟩
                      · rw [if_neg c90] at H
                        have c90b0 : (t316 == 0) = false := beq_eq_false_iff_ne.mpr c90
                        have c90b1 : (t316 != 0) = true := bne_iff_ne.mpr c90
                        obtain rfl := Option.some.inj H
                        as_aux_lemma =>
                          go_wp2_with (first | ((with_reducible refine gate_callee (f := 37) rfl ?_); refine goesL_ (some 214) rfl rfl Tryd.func37 (by kernel_rfl) rfl #[.slice A0 l0.length c0] rfl (by (try simp only [List.map_toArray, List.map_cons, List.map_nil]); first | done | rfl | (simp only [List.length_drop, List.length_take]; rfl)) ?_; (with_reducible refine (perm_Type.calls kj64 _ _ l0 t311 t312 _ ?side1 ?side2 A87.out).mono ?_); (case side1 => repeat (first | exact (Kd.C_below HR0.out HB.out) | (with_reducible refine Kd.C_alloc ?_ _) | (with_reducible refine Kd.C_drewN ?_ _) | (with_reducible refine Kd.C_drew ?_))); (case side2 => exact HC0.out); rintro e w96 ⟨v313, rfl, ho0, hb⟩; refine ⟨_, rfl, ?_⟩; have n0_ := Aside0.mk (Kd.R_elder' (by (with_reducible repeat (first | apply Kd.R_alloc | apply Kd.R_drewN | apply Kd.R_drew)); exact HO_26.out) (Kd.R_base ho0) hb); have n1_ := Aside0.mk (Kd.R_lower (Kd.R_new' ho0 (Kd.R_lt (by (with_reducible repeat (first | apply Kd.R_alloc | apply Kd.R_drewN | apply Kd.R_drew)); exact HO_26.out))) (below_size (by repeat (first | (with_reducible first | exact HB.out | apply below_alloc | apply pw_below_drewN | apply below_drew1) | exact HB.out)))); have n2_ := Aside0.mk (below_step (by repeat (first | (with_reducible first | exact HB.out | apply below_alloc | apply pw_below_drewN | apply below_drew1) | exact HB.out)) hb); clear HO_26; clear HB; have HO_26 := n0_; have HO314 := n1_; have HB := n2_; clear n0_ n1_ n2_; (try clear hb); (try clear hb2); (try clear hk); (try clear hi); (try clear ho0)) | ((with_reducible refine gate_callee (f := 37) rfl ?_); refine goesL_ (some 219) rfl rfl Tryd.func37 (by kernel_rfl) rfl #[.slice Ao72 t294.length co72] rfl (by (try simp only [List.map_toArray, List.map_cons, List.map_nil]); first | done | rfl | (simp only [List.length_drop, List.length_take]; rfl)) ?_; (with_reducible refine (perm_Type.calls kj64 _ _ t294 t315 t316 _ ?side1 ?side2 A88.out).mono ?_); (case side1 => repeat (first | exact (Kd.R_reads' HO_26.out).2.2 | (with_reducible refine Kd.C_alloc ?_ _) | (with_reducible refine Kd.C_drewN ?_ _) | (with_reducible refine Kd.C_drew ?_))); (case side2 => exact (Kd.R_reads' HO_26.out).2.1); rintro e w97 ⟨v317, rfl, ho0, hb⟩; refine ⟨_, rfl, ?_⟩; have n0_ := Aside0.mk (Kd.R_elder' (by (with_reducible repeat (first | apply Kd.R_alloc | apply Kd.R_drewN | apply Kd.R_drew)); exact HO_26.out) (Kd.R_base ho0) hb); have n1_ := Aside0.mk (Kd.R_elder' (by (with_reducible repeat (first | apply Kd.R_alloc | apply Kd.R_drewN | apply Kd.R_drew)); exact HO314.out) (Kd.R_base ho0) hb); have n2_ := Aside0.mk (Kd.R_lower (Kd.R_new' (Kd.R_new' ho0 (Kd.R_lt (by (with_reducible repeat (first | apply Kd.R_alloc | apply Kd.R_drewN | apply Kd.R_drew)); exact HO_26.out))) (Kd.R_lt (by (with_reducible repeat (first | apply Kd.R_alloc | apply Kd.R_drewN | apply Kd.R_drew)); exact HO314.out))) (below_size (by repeat (first | (with_reducible first | exact HB.out | apply below_alloc | apply pw_below_drewN | apply below_drew1) | exact HB.out)))); have n3_ := Aside0.mk (below_step (by repeat (first | (with_reducible first | exact HB.out | apply below_alloc | apply pw_below_drewN | apply below_drew1) | exact HB.out)) hb); clear HO_26; clear HO314; clear HB; have HO_26 := n0_; have HO314 := n1_; have HO318 := n2_; have HB := n3_; clear n0_ n1_ n2_ n3_; (try clear hb); (try clear hb2); (try clear hk); (try clear hi); (try clear ho0)))
                          go_ret
                          exact ⟨by first | rfl | (simp [errW_none, errW_some] <;> rfl) | (simp [*, errW_none, errW_some] <;> rfl), by repeat (first | (with_reducible first | exact HB.out | apply below_alloc | apply pw_below_drewN | apply below_drew1) | exact HB.out)⟩
                    · rw [if_neg c89] at H
                      have c89b0 : (t312 == 0) = false := beq_eq_false_iff_ne.mpr c89
                      have c89b1 : (t312 != 0) = true := bne_iff_ne.mpr c89
                      obtain rfl := Option.some.inj H
                      as_aux_lemma =>
                        go_wp2_with (first | ((with_reducible refine gate_callee (f := 37) rfl ?_); refine goesL_ (some 214) rfl rfl Tryd.func37 (by kernel_rfl) rfl #[.slice A0 l0.length c0] rfl (by (try simp only [List.map_toArray, List.map_cons, List.map_nil]); first | done | rfl | (simp only [List.length_drop, List.length_take]; rfl)) ?_; (with_reducible refine (perm_Type.calls kj64 _ _ l0 t311 t312 _ ?side1 ?side2 A87.out).mono ?_); (case side1 => repeat (first | exact (Kd.C_below HR0.out HB.out) | (with_reducible refine Kd.C_alloc ?_ _) | (with_reducible refine Kd.C_drewN ?_ _) | (with_reducible refine Kd.C_drew ?_))); (case side2 => exact HC0.out); rintro e w98 ⟨v313, rfl, ho0, hb⟩; refine ⟨_, rfl, ?_⟩; have n0_ := Aside0.mk (Kd.R_elder' (by (with_reducible repeat (first | apply Kd.R_alloc | apply Kd.R_drewN | apply Kd.R_drew)); exact HO_26.out) (Kd.R_base ho0) hb); have n1_ := Aside0.mk (Kd.R_lower (Kd.R_new' ho0 (Kd.R_lt (by (with_reducible repeat (first | apply Kd.R_alloc | apply Kd.R_drewN | apply Kd.R_drew)); exact HO_26.out))) (below_size (by repeat (first | (with_reducible first | exact HB.out | apply below_alloc | apply pw_below_drewN | apply below_drew1) | exact HB.out)))); have n2_ := Aside0.mk (below_step (by repeat (first | (with_reducible first | exact HB.out | apply below_alloc | apply pw_below_drewN | apply below_drew1) | exact HB.out)) hb); clear HO_26; clear HB; have HO_26 := n0_; have HO314 := n1_; have HB := n2_; clear n0_ n1_ n2_; (try clear hb); (try clear hb2); (try clear hk); (try clear hi); (try clear ho0)) | ((with_reducible refine gate_callee (f := 37) rfl ?_); refine goesL_ (some 219) rfl rfl Tryd.func37 (by kernel_rfl) rfl #[.slice Ao72 t294.length co72] rfl (by (try simp only [List.map_toArray, List.map_cons, List.map_nil]); first | done | rfl | (simp only [List.length_drop, List.length_take]; rfl)) ?_; (with_reducible refine (perm_Type.calls kj64 _ _ t294 t315 t316 _ ?side1 ?side2 A88.out).mono ?_); (case side1 => repeat (first | exact (Kd.R_reads' HO_26.out).2.2 | (with_reducible refine Kd.C_alloc ?_ _) | (with_reducible refine Kd.C_drewN ?_ _) | (with_reducible refine Kd.C_drew ?_))); (case side2 => exact (Kd.R_reads' HO_26.out).2.1); rintro e w99 ⟨v317, rfl, ho0, hb⟩; refine ⟨_, rfl, ?_⟩; have n0_ := Aside0.mk (Kd.R_elder' (by (with_reducible repeat (first | apply Kd.R_alloc | apply Kd.R_drewN | apply Kd.R_drew)); exact HO_26.out) (Kd.R_base ho0) hb); have n1_ := Aside0.mk (Kd.R_elder' (by (with_reducible repeat (first | apply Kd.R_alloc | apply Kd.R_drewN | apply Kd.R_drew)); exact HO314.out) (Kd.R_base ho0) hb); have n2_ := Aside0.mk (Kd.R_lower (Kd.R_new' (Kd.R_new' ho0 (Kd.R_lt (by (with_reducible repeat (first | apply Kd.R_alloc | apply Kd.R_drewN | apply Kd.R_drew)); exact HO_26.out))) (Kd.R_lt (by (with_reducible repeat (first | apply Kd.R_alloc | apply Kd.R_drewN | apply Kd.R_drew)); exact HO314.out))) (below_size (by repeat (first | (with_reducible first | exact HB.out | apply below_alloc | apply pw_below_drewN | apply below_drew1) | exact HB.out)))); have n3_ := Aside0.mk (below_step (by repeat (first | (with_reducible first | exact HB.out | apply below_alloc | apply pw_below_drewN | apply below_drew1) | exact HB.out)) hb); clear HO_26; clear HO314; clear HB; have HO_26 := n0_; have HO314 := n1_; have HO318 := n2_; have HB := n3_; clear n0_ n1_ n2_ n3_; (try clear hb); (try clear hb2); (try clear hk); (try clear hi); (try clear ho0)))
                        go_ret
                        exact ⟨by first | rfl | (simp [errW_none, errW_some] <;> rfl) | (simp [*, errW_none, errW_some] <;> rfl), by repeat (first | (with_reducible first | exact HB.out | apply below_alloc | apply pw_below_drewN | apply below_drew1) | exact HB.out)⟩
  
/-- THE ONE PURE STATEMENT of galoislaw22_PermGroup: yours. -/
def galoislaw22_PermGroup.Pure : Prop := ∀ (l0 : List Int) (l1 : List Int) (l2 : List Int), l0.length ≤ maxLen → l0.length * 8 ≤ 140737488351232 → (∀ x ∈ l0, (Lit.int .i64 x).wf = true) → l1.length ≤ maxLen → l1.length * 8 ≤ 140737488351232 → (∀ x ∈ l1, (Lit.int .i64 x).wf = true) → l2.length ≤ maxLen → l2.length * 8 ≤ 140737488351232 → (∀ x ∈ l2, (Lit.int .i64 x).wf = true) → ∃ k, galoislaw22_PermGroup.f k l0 l1 l2 = some true
theorem galoislaw22_PermGroup.walk (P : galoislaw22_PermGroup.Pure) (a0 : Option Addr) (len0 cap0 : Nat) (z0 : List Int) (a1 : Option Addr) (len1 cap1 : Nat) (z1 : List Int) (a2 : Option Addr) (len2 cap2 : Nat) (z2 : List Int) (w : World) (w0 : (a0 = none ∧ len0 = 0 ∧ cap0 = 0 ∧ z0 = []) ∨ ∃ x, a0 = some x ∧ len0 ≤ cap0 ∧ cap0 ≤ maxLen ∧ z0.length = cap0 ∧ (∀ i, i < z0.length → w.cell? (x.add i) = some (.int .i64 (z0.getD i 0))) ∧ ∀ n ∈ z0, (Lit.int .i64 n).wf = true) (y0 : len0 * 8 ≤ 140737488351232) (w1 : (a1 = none ∧ len1 = 0 ∧ cap1 = 0 ∧ z1 = []) ∨ ∃ x, a1 = some x ∧ len1 ≤ cap1 ∧ cap1 ≤ maxLen ∧ z1.length = cap1 ∧ (∀ i, i < z1.length → w.cell? (x.add i) = some (.int .i64 (z1.getD i 0))) ∧ ∀ n ∈ z1, (Lit.int .i64 n).wf = true) (y1 : len1 * 8 ≤ 140737488351232) (w2 : (a2 = none ∧ len2 = 0 ∧ cap2 = 0 ∧ z2 = []) ∨ ∃ x, a2 = some x ∧ len2 ≤ cap2 ∧ cap2 ≤ maxLen ∧ z2.length = cap2 ∧ (∀ i, i < z2.length → w.cell? (x.add i) = some (.int .i64 (z2.getD i 0))) ∧ ∀ n ∈ z2, (Lit.int .i64 n).wf = true) (y2 : len2 * 8 ≤ 140737488351232) :
    Calls Tryd.prog 9 #[.slice a0 len0 cap0, .slice a1 len1 cap1, .slice a2 len2 cap2] w fun e w' => e = .returned (.bool true) ∧ Below w.heap.size w w' := by
  obtain ⟨l0, rfl, hr0, hm0, hw0, hc0⟩ := ReadsInt.ofRowC w0
  obtain ⟨l1, rfl, hr1, hm1, hw1, hc1⟩ := ReadsInt.ofRowC w1
  obtain ⟨l2, rfl, hr2, hm2, hw2, hc2⟩ := ReadsInt.ofRowC w2
  obtain ⟨k, h⟩ := P l0 l1 l2 hm0 y0 hw0 hm1 y1 hw1 hm2 y2 hw2
  refine (galoislaw22_PermGroup.calls k _ _ l0 _ _ l1 _ _ l2 true w (Kd.C_of_reads (d := (0 : Int)) (h1 := fun _ => rfl) hr0) hc0 (Kd.C_of_reads (d := (0 : Int)) (h1 := fun _ => rfl) hr1) hc1 (Kd.C_of_reads (d := (0 : Int)) (h1 := fun _ => rfl) hr2) hc2 h).mono ?_
  rintro e w' ⟨rfl, hd⟩
  exact ⟨rfl, hd⟩

end Go.Proofs.YtoaalfpfklchfaaDoor.PPermGroup
