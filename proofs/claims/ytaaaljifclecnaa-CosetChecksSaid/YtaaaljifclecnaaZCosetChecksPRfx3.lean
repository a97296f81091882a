-- Printed by wip/tools/mk.py of this repo (the kit's print with turns made in memory).
import Derived.Test.YtaaaljifclecnaaZCosetChecksPRfx0
import Derived.Test.YtaaaljifclecnaaZCosetChecksPRfx1
import Derived.Test.YtaaaljifclecnaaZCosetChecksPRfx2
namespace Go.Proofs.Ytaaaljifclecnaa.PRf
open Go.RowKit Go.Proofs.YtaaaljifclecnaaW.PrintWords Go.Proofs.YtaaaljifclecnaaW.PrintLast Go.Proofs.YtaaaljifclecnaaW.PrintMore
attribute [local go_sem] max2_int min2_int max_two min_two max_three min_three max_four min_four   -- for this text's walks alone
set_option linter.unusedVariables false
set_option linter.unusedSimpArgs false
def galoisref23_Place.l0 : Nat → List (List Int) → List Int → Int → Int → Option (Int)
  | 0, _, _, _, _ => none
  | k + 1, x0, x1, x5, x6 => if x5 < x6 then (if 0 ≤ (wrap64 (Int.tdiv (wrap64 (x5 + x6)) 2)) then (if (wrap64 (Int.tdiv (wrap64 (x5 + x6)) 2)) < (x0.length : Int) then ((galoisref22_Compare.f k (rd_L1 x0 (wrap64 (Int.tdiv (wrap64 (x5 + x6)) 2))) x1).bind fun t156 => (if t156 < 0 then (galoisref23_Place.l0 k x0 x1 (wrap64 ((wrap64 (Int.tdiv (wrap64 (x5 + x6)) 2)) + 1)) x6) else (galoisref23_Place.l0 k x0 x1 x5 (wrap64 (Int.tdiv (wrap64 (x5 + x6)) 2))))) else (none)) else (none)) else (some x5)
def galoisref23_Place.f (k : Nat) (l0 : List (List Int)) (l1 : List Int) : Option (Int) := galoisref23_Place.l0 k l0 l1 0 (l0.length : Int)
theorem galoisref23_Place.mono_l : ∀ k, (∀ y0 y1 y2 y3, LeO (galoisref23_Place.l0 k y0 y1 y2 y3) (galoisref23_Place.l0 (k + 1) y0 y1 y2 y3))
  | 0 => fun _ _ _ _ r h => by simp [galoisref23_Place.l0] at h
  | k + 1 => by
    have ih0 := galoisref23_Place.mono_l k
    · intro y0 y1 y2 y3
      unfold galoisref23_Place.l0
      repeat' first
      | (with_reducible exact ih0 _ _ _ _)
      | (with_reducible exact galoisref22_Compare.mono _ _ _)
      | (with_reducible exact LeO.refl _)
      | (with_reducible exact LeO.none _)
      | (with_reducible refine LeO.ite ?_ ?_)
      | (with_reducible refine LeO.bind ?_ (fun _ => ?_))
      | exact ih0 _ _ _ _
      | exact galoisref22_Compare.mono _ _ _
      | exact LeO.none _
      | refine LeO.ite ?_ ?_
      | refine LeO.bind ?_ (fun _ => ?_)
theorem galoisref23_Place.mono : ∀ a0 a1 k, LeO (galoisref23_Place.f k a0 a1) (galoisref23_Place.f (k + 1) a0 a1) := by
  intro a0 a1 k
  have ih0 := galoisref23_Place.mono_l k
  unfold galoisref23_Place.f
  repeat' first
      | (with_reducible exact ih0 _ _ _ _)
      | (with_reducible exact galoisref22_Compare.mono _ _ _)
      | (with_reducible exact LeO.refl _)
      | (with_reducible exact LeO.none _)
      | (with_reducible refine LeO.ite ?_ ?_)
      | (with_reducible refine LeO.bind ?_ (fun _ => ?_))
      | exact ih0 _ _ _ _
      | exact galoisref22_Compare.mono _ _ _
      | exact LeO.none _
      | refine LeO.ite ?_ ?_
      | refine LeO.bind ?_ (fun _ => ?_)
set_option maxHeartbeats 8000000 in
set_option maxRecDepth 100000 in
theorem galoisref23_Place.calls (k : Nat) (A0 : Option Addr) (c0 : Nat) (l0 : List (List Int)) (A1 : Option Addr) (c1 : Nat) (l1 : List Int) (r : Int) (w : World) (hr0 : Kd.C (Kd.slice 3 (Kd.int .i64)) w A0 l0.length l0) (hc0 : l0.length ≤ c0) (hr1 : Kd.C (Kd.int .i64) w A1 l1.length l1) (hc1 : l1.length ≤ c1) (h : galoisref23_Place.f k l0 l1 = some r) :
    Calls Try.prog 58 #[.slice A0 l0.length c0, .slice A1 l1.length c1] w fun e w' => e = .returned (.int .i64 r) ∧ Drawn0 w w' := by
  have HR0 := Aside0.mk hr0
  have HC0 := Aside0.mk hc0
  clear hr0 hc0
  have HR1 := Aside0.mk hr1
  have HC1 := Aside0.mk hc1
  clear hr1 hc1
  have H : (galoisref23_Place.l0 k l0 l1 0 (l0.length : Int)) = some r := h
  clear h
  have H' := Aside0.mk H
  clear H
  go_enter Try.func58, Try.ntmps58
  go_wp2
  go_loopg [5, 6] k (fun kq v5 v6 w' => ∃ (x5_1 : Int) (x6_1 : Int), v5 = .int .i64 x5_1 ∧ v6 = .int .i64 x6_1 ∧ Aside0 (galoisref23_Place.l0 kq l0 l1 x5_1 x6_1 = some r) ∧ Aside0 (kq ≤ k) ∧ Drawn0 w w')
  case atStart => exact ⟨(0), ((l0.length : Int)), (by first | rfl | (simp; done) | (simp [*]; done)), (by first | rfl | (simp; done) | (simp [*]; done)), H', ⟨Nat.le_refl _⟩, by repeat (first | exact Drawn0.refl _ | apply Drawn0.step)⟩
  case round =>
    clear H'
    try clear c1
    try clear p2
    obtain ⟨x5_1, x6_1, rfl, rfl, HA, HK1, ⟨m1, rfl⟩⟩ := hrel
    cases gk with
    | zero => exact absurd HA.out (by simp [galoisref23_Place.l0])
    | succ k1 =>
      have H := HA.out
      clear HA
      simp only [galoisref23_Place.l0] at H
      by_cases c3 : x5_1 < x6_1
      · rw [if_pos c3] at H
        have c3b0 : decide (x5_1 < x6_1) = true := decide_eq_true c3
        clear c3
        obtain ⟨ji4, hji4⟩ : ∃ j_ : Int, (wrap64 (Int.tdiv (wrap64 (x5_1 + x6_1)) 2)) = j_ := ⟨_, rfl⟩
        replace H : (if 0 ≤ (ji4) then (if (ji4) < (l0.length : Int) then ((galoisref22_Compare.f k1 (rd_L1 l0 (ji4)) l1).bind fun t156 => (if t156 < 0 then (galoisref23_Place.l0 k1 l0 l1 (wrap64 ((ji4) + 1)) x6_1) else (galoisref23_Place.l0 k1 l0 l1 x5_1 ji4))) else (none)) else (none)) = some r := by first | (rw [hji4] at H; exact H) | (simp only [hji4] at H ⊢; exact H)
        have hji4w : (IntKind.i64.wrap (Int.tdiv (wrap64 (x5_1 + x6_1)) 2)) = ji4 := (i64_w _).trans hji4
        by_cases c5 : 0 ≤ (ji4)
        · rw [if_pos c5] at H
          have c5b0 : decide (0 ≤ (ji4)) = true := decide_eq_true c5
          clear c5
          by_cases c6 : (ji4) < (l0.length : Int)
          · rw [if_pos c6] at H
            have c6b0 : decide ((ji4) < (l0.length : Int)) = true := decide_eq_true c6
            clear c6
            replace H := Option.bind_eq_some_iff.mp H
            obtain ⟨t156, A70, H⟩ := H
            replace H : (if t156 < 0 then (galoisref23_Place.l0 k1 l0 l1 (wrap64 ((ji4) + 1)) x6_1) else (galoisref23_Place.l0 k1 l0 l1 x5_1 ji4)) = some r := H
            have A7 := Aside0.mk A70
            clear A70
            by_cases c8 : t156 < 0
            · rw [if_pos c8] at H
              have c8b0 : decide (t156 < 0) = true := decide_eq_true c8
              clear c8
              have H' := Aside0.mk H
              clear H
              have p155 : 0 ≤ ((ji4) : Int) := of_decide_eq_true (by first | (with_reducible assumption) | assumption)
              have q155 : (ji4) < (l0.length : Int) := of_decide_eq_true (by first | (with_reducible assumption) | assumption)
              obtain ⟨ad155, A155_0, c155_0, e155, hx155_0, hl155_0, hi155_0⟩ := at_L1 HR0.out (ji4) p155 q155
              cases e155
              have HR155_0 := Aside0.mk hi155_0
              have HC155_0 := Aside0.mk hl155_0
              clear hi155_0 hl155_0
              replace p155 := eq_true p155
              replace q155 := eq_true q155
              go_wp2_with (first | ((with_reducible refine gate_callee (f := 79) rfl ?_); refine goesL_ (some 22) rfl rfl Try.func79 (by kernel_rfl) rfl #[.slice A155_0 (rd_L1 l0 (ji4)).length c155_0, .slice A1 l1.length c1] rfl (by (try simp only [List.map_toArray, List.map_cons, List.map_nil]); first | done | (simp only [hji4]; rfl) | rfl | (simp only [List.length_drop, List.length_take]; rfl)) ?_; (with_reducible refine (galoisref22_Compare.calls k1 _ _ (rd_L1 l0 (ji4)) _ _ l1 t156 _ ?side1 ?side2 ?side3 ?side4 A7.out).mono ?_); (case side1 => repeat (first | exact HR155_0.out | (with_reducible refine Kd.C_alloc ?_ _) | (with_reducible refine Kd.C_drewN ?_ _) | (with_reducible refine Kd.C_drew ?_))); (case side2 => exact HC155_0.out); (case side3 => repeat (first | exact HR1.out | (with_reducible refine Kd.C_alloc ?_ _) | (with_reducible refine Kd.C_drewN ?_ _) | (with_reducible refine Kd.C_drew ?_))); (case side4 => exact HC1.out); rintro e w' ⟨rfl, ⟨nd, rfl⟩⟩; refine ⟨_, rfl, ?_⟩))
              go_roundg k1
              case measure => have := HK1.out; ((try clear hji4w); (try clear hji4); omega)
              case rel => exact ⟨(wrap64 ((ji4) + 1)), (x6_1), (by first | rfl | (simp; done) | (simp only [← hji4] <;> (first | rfl | simp)) | (simp [*]; done)), (by first | rfl | (simp; done) | (simp [*]; done)), H', ⟨by have := HK1.out; ((try clear hji4w); (try clear hji4); omega)⟩, by repeat (first | exact Drawn0.refl _ | apply Drawn0.step)⟩
            · rw [if_neg c8] at H
              have c8b0 : decide (t156 < 0) = false := decide_eq_false c8
              clear c8
              have H' := Aside0.mk H
              clear H
              have p155 : 0 ≤ ((ji4) : Int) := of_decide_eq_true (by first | (with_reducible assumption) | assumption)
              have q155 : (ji4) < (l0.length : Int) := of_decide_eq_true (by first | (with_reducible assumption) | assumption)
              obtain ⟨ad155, A155_0, c155_0, e155, hx155_0, hl155_0, hi155_0⟩ := at_L1 HR0.out (ji4) p155 q155
              cases e155
              have HR155_0 := Aside0.mk hi155_0
              have HC155_0 := Aside0.mk hl155_0
              clear hi155_0 hl155_0
              replace p155 := eq_true p155
              replace q155 := eq_true q155
              go_wp2_with (first | ((with_reducible refine gate_callee (f := 79) rfl ?_); refine goesL_ (some 22) rfl rfl Try.func79 (by kernel_rfl) rfl #[.slice A155_0 (rd_L1 l0 (ji4)).length c155_0, .slice A1 l1.length c1] rfl (by (try simp only [List.map_toArray, List.map_cons, List.map_nil]); first | done | (simp only [hji4]; rfl) | rfl | (simp only [List.length_drop, List.length_take]; rfl)) ?_; (with_reducible refine (galoisref22_Compare.calls k1 _ _ (rd_L1 l0 (ji4)) _ _ l1 t156 _ ?side1 ?side2 ?side3 ?side4 A7.out).mono ?_); (case side1 => repeat (first | exact HR155_0.out | (with_reducible refine Kd.C_alloc ?_ _) | (with_reducible refine Kd.C_drewN ?_ _) | (with_reducible refine Kd.C_drew ?_))); (case side2 => exact HC155_0.out); (case side3 => repeat (first | exact HR1.out | (with_reducible refine Kd.C_alloc ?_ _) | (with_reducible refine Kd.C_drewN ?_ _) | (with_reducible refine Kd.C_drew ?_))); (case side4 => exact HC1.out); rintro e w' ⟨rfl, ⟨nd, rfl⟩⟩; refine ⟨_, rfl, ?_⟩))
              go_roundg k1
              case measure => have := HK1.out; ((try clear hji4w); (try clear hji4); omega)
              case rel => exact ⟨(x5_1), (ji4), (by first | rfl | (simp; done) | (simp [*]; done)), (by first | rfl | (simp; done) | (simp only [← hji4] <;> (first | rfl | simp)) | (simp [*]; done)), H', ⟨by have := HK1.out; ((try clear hji4w); (try clear hji4); omega)⟩, by repeat (first | exact Drawn0.refl _ | apply Drawn0.step)⟩
          · rw [if_neg c6] at H
            exact absurd H (by simp)
        · rw [if_neg c5] at H
          exact absurd H (by simp)
      · rw [if_neg c3] at H
        have c3b0 : decide (x5_1 < x6_1) = false := decide_eq_false c3
        clear c3
        obtain rfl := Option.some.inj H
        go_wp2
        go_ret
        exact ⟨by first | rfl | (simp; done) | (simp [*]; done), by repeat (first | exact Drawn0.refl _ | apply Drawn0.step)⟩
def galoisref23_Has.f (k : Nat) (l0 : List (List Int)) (l1 : List Int) : Option (Bool) := (galoisref23_Place.f k l0 l1).bind fun t157 => (if t157 < (l0.length : Int) then (if 0 ≤ t157 then ((galoisref22_Same.f k (rd_L1 l0 t157) l1).bind fun t159 => (some t159)) else (none)) else (some false))
theorem galoisref23_Has.mono : ∀ a0 a1 k, LeO (galoisref23_Has.f k a0 a1) (galoisref23_Has.f (k + 1) a0 a1) := by
  intro a0 a1 k
  unfold galoisref23_Has.f
  repeat' first
      | (with_reducible exact galoisref22_Same.mono _ _ _)
      | (with_reducible exact galoisref23_Place.mono _ _ _)
      | (with_reducible exact LeO.refl _)
      | (with_reducible exact LeO.none _)
      | (with_reducible refine LeO.ite ?_ ?_)
      | (with_reducible refine LeO.bind ?_ (fun _ => ?_))
      | exact galoisref22_Same.mono _ _ _
      | exact galoisref23_Place.mono _ _ _
      | exact LeO.none _
      | refine LeO.ite ?_ ?_
      | refine LeO.bind ?_ (fun _ => ?_)
set_option maxHeartbeats 8000000 in
set_option maxRecDepth 100000 in
theorem galoisref23_Has.calls (k : Nat) (A0 : Option Addr) (c0 : Nat) (l0 : List (List Int)) (A1 : Option Addr) (c1 : Nat) (l1 : List Int) (r : Bool) (w : World) (hr0 : Kd.C (Kd.slice 3 (Kd.int .i64)) w A0 l0.length l0) (hc0 : l0.length ≤ c0) (hr1 : Kd.C (Kd.int .i64) w A1 l1.length l1) (hc1 : l1.length ≤ c1) (h : galoisref23_Has.f k l0 l1 = some r) :
    Calls Try.prog 28 #[.slice A0 l0.length c0, .slice A1 l1.length c1] w fun e w' => e = .returned (.bool r) ∧ Drawn0 w w' := by
  have HR0 := Aside0.mk hr0
  have HC0 := Aside0.mk hc0
  clear hr0 hc0
  have HR1 := Aside0.mk hr1
  have HC1 := Aside0.mk hc1
  clear hr1 hc1
  have H : ((galoisref23_Place.f k l0 l1).bind fun t157 => (if t157 < (l0.length : Int) then (if 0 ≤ t157 then ((galoisref22_Same.f k (rd_L1 l0 t157) l1).bind fun t159 => (some t159)) else (none)) else (some false))) = some r := h
  clear h
  replace H := Option.bind_eq_some_iff.mp H
  obtain ⟨t157, A30, H⟩ := H
  replace H : (if t157 < (l0.length : Int) then (if 0 ≤ t157 then ((galoisref22_Same.f k (rd_L1 l0 t157) l1).bind fun t159 => (some t159)) else (none)) else (some false)) = some r := H
  have A3 := Aside0.mk A30
  clear A30
  by_cases c4 : t157 < (l0.length : Int)
  · rw [if_pos c4] at H
    have c4b0 : decide (t157 < (l0.length : Int)) = true := decide_eq_true c4
    clear c4
    by_cases c5 : 0 ≤ t157
    · rw [if_pos c5] at H
      have c5b0 : decide (0 ≤ t157) = true := decide_eq_true c5
      clear c5
      replace H := Option.bind_eq_some_iff.mp H
      obtain ⟨t159, A60, H⟩ := H
      replace H : (some t159) = some r := H
      have A6 := Aside0.mk A60
      clear A60
      obtain rfl := Option.some.inj H
      go_enter Try.func28, Try.ntmps28
      go_wp2_with (first | ((with_reducible refine gate_callee (f := 58) rfl ?_); refine goesL_ (some 8) rfl rfl Try.func58 (by kernel_rfl) rfl #[.slice A0 l0.length c0, .slice A1 l1.length c1] rfl (by (try simp only [List.map_toArray, List.map_cons, List.map_nil]); first | done | rfl | (simp only [List.length_drop, List.length_take]; rfl)) ?_; (with_reducible refine (galoisref23_Place.calls k _ _ l0 _ _ l1 t157 _ ?side1 ?side2 ?side3 ?side4 A3.out).mono ?_); (case side1 => repeat (first | exact HR0.out | (with_reducible refine Kd.C_alloc ?_ _) | (with_reducible refine Kd.C_drewN ?_ _) | (with_reducible refine Kd.C_drew ?_))); (case side2 => exact HC0.out); (case side3 => repeat (first | exact HR1.out | (with_reducible refine Kd.C_alloc ?_ _) | (with_reducible refine Kd.C_drewN ?_ _) | (with_reducible refine Kd.C_drew ?_))); (case side4 => exact HC1.out); rintro e w' ⟨rfl, ⟨nd, rfl⟩⟩; refine ⟨_, rfl, ?_⟩; have p158 : 0 ≤ (t157 : Int) := of_decide_eq_true (by first | (with_reducible assumption) | assumption); have q158 : t157 < (l0.length : Int) := of_decide_eq_true (by first | (with_reducible assumption) | assumption); obtain ⟨ad158, A158_0, c158_0, e158, hx158_0, hl158_0, hi158_0⟩ := at_L1 HR0.out t157 p158 q158; cases e158; have HR158_0 := Aside0.mk hi158_0; have HC158_0 := Aside0.mk hl158_0; clear hi158_0 hl158_0; replace p158 := eq_true p158; replace q158 := eq_true q158) | (go_at_call 32; (with_reducible refine (galoisref22_Same.calls k _ _ (rd_L1 l0 t157) _ _ l1 t159 _ ?side1 ?side2 ?side3 ?side4 A6.out).mono ?_); (case side1 => repeat (first | exact HR158_0.out | (with_reducible refine Kd.C_alloc ?_ _) | (with_reducible refine Kd.C_drewN ?_ _) | (with_reducible refine Kd.C_drew ?_))); (case side2 => exact HC158_0.out); (case side3 => repeat (first | exact HR1.out | (with_reducible refine Kd.C_alloc ?_ _) | (with_reducible refine Kd.C_drewN ?_ _) | (with_reducible refine Kd.C_drew ?_))); (case side4 => exact HC1.out); rintro e w' ⟨rfl, ⟨nd, rfl⟩⟩))
      go_ret
      exact ⟨by first | rfl | (simp; done) | (simp [*]; done), by repeat (first | exact Drawn0.refl _ | apply Drawn0.step)⟩
    · rw [if_neg c5] at H
      exact absurd H (by simp)
  · rw [if_neg c4] at H
    have c4b0 : decide (t157 < (l0.length : Int)) = false := decide_eq_false c4
    clear c4
    obtain rfl := Option.some.inj H
    go_enter Try.func28, Try.ntmps28
    go_wp2_with (first | ((with_reducible refine gate_callee (f := 58) rfl ?_); refine goesL_ (some 8) rfl rfl Try.func58 (by kernel_rfl) rfl #[.slice A0 l0.length c0, .slice A1 l1.length c1] rfl (by (try simp only [List.map_toArray, List.map_cons, List.map_nil]); first | done | rfl | (simp only [List.length_drop, List.length_take]; rfl)) ?_; (with_reducible refine (galoisref23_Place.calls k _ _ l0 _ _ l1 t157 _ ?side1 ?side2 ?side3 ?side4 A3.out).mono ?_); (case side1 => repeat (first | exact HR0.out | (with_reducible refine Kd.C_alloc ?_ _) | (with_reducible refine Kd.C_drewN ?_ _) | (with_reducible refine Kd.C_drew ?_))); (case side2 => exact HC0.out); (case side3 => repeat (first | exact HR1.out | (with_reducible refine Kd.C_alloc ?_ _) | (with_reducible refine Kd.C_drewN ?_ _) | (with_reducible refine Kd.C_drew ?_))); (case side4 => exact HC1.out); rintro e w' ⟨rfl, ⟨nd, rfl⟩⟩; refine ⟨_, rfl, ?_⟩))
    go_ret
    exact ⟨by first | rfl | (simp; done) | (simp [*]; done), by repeat (first | exact Drawn0.refl _ | apply Drawn0.step)⟩
def galoisref23_Has.Pure : Prop := ∀ (l0 : List (List Int)) (l1 : List Int), l0.length ≤ maxLen → (∀ x ∈ l0, (x.length ≤ maxLen ∧ ∀ y0 ∈ x, (Lit.int .i64 y0).wf = true)) → l1.length ≤ maxLen → (∀ x ∈ l1, (Lit.int .i64 x).wf = true) → ∃ k, galoisref23_Has.f k l0 l1 = some true
theorem galoisref23_Has.walk (P : galoisref23_Has.Pure) (A0 : Option Addr) (c0 : Nat) (l0 : List (List Int)) (A1 : Option Addr) (c1 : Nat) (l1 : List Int) (w : World) (hr0 : Kd.C (Kd.slice 3 (Kd.int .i64)) w A0 l0.length l0) (hc0 : l0.length ≤ c0) (hm0 : l0.length ≤ maxLen) (hw0 : ∀ x ∈ l0, (x.length ≤ maxLen ∧ ∀ y0 ∈ x, (Lit.int .i64 y0).wf = true)) (hr1 : Kd.C (Kd.int .i64) w A1 l1.length l1) (hc1 : l1.length ≤ c1) (hm1 : l1.length ≤ maxLen) (hw1 : ∀ x ∈ l1, (Lit.int .i64 x).wf = true) :
    Calls Try.prog 28 #[.slice A0 l0.length c0, .slice A1 l1.length c1] w fun e w' => e = .returned (.bool true) ∧ Below w.heap.size w w' := by
  obtain ⟨k, h⟩ := P l0 l1 hm0 hw0 hm1 hw1
  refine (galoisref23_Has.calls k _ _ l0 _ _ l1 true w hr0 hc0 hr1 hc1 h).mono ?_
  rintro e w' ⟨rfl, hd⟩
  exact ⟨rfl, hd.below⟩
end Go.Proofs.Ytaaaljifclecnaa.PRf
