-- Printed by wip/tools/mk.py of this repo (the kit's print with turns made in memory).
import Derived.Test.YtmbldnoepjmhhaaGreatZPermgroupStabilizersPRfx0
import Derived.Test.YtmbldnoepjmhhaaGreatZPermgroupStabilizersPRfx2
import Derived.Test.YtmbldnoepjmhhaaGreatZPermgroupStabilizersPRfx3
namespace Go.Proofs.YtmbldnoepjmhhaaGreat.PRf
open Go.RowKit Go.Proofs.YtmbldnoepjmhhaaGreatW.PrintWords Go.Proofs.YtmbldnoepjmhhaaGreatW.PrintLast Go.Proofs.YtmbldnoepjmhhaaGreatW.PrintMore Go.Proofs.YtmbldnoepjmhhaaGreat.PAll
attribute [local go_sem] max2_int min2_int max_two min_two max_three min_three max_four min_four   -- for this text's walks alone
set_option linter.unusedVariables false
set_option linter.unusedSimpArgs false
def galoisref23_in.l0 : Nat → List Int → Int → Int → Option (Bool)
 | 0, _, _, _ => none
 | k + 1, x0, x1, x5 => if x5 < (x0.length : Int) then (if 0 ≤ x5 then (if (rd x0 x5) = x1 then (some true) else (galoisref23_in.l0 k x0 x1 (wrap64 (x5 + 1)))) else (none)) else (some false)
def galoisref23_in.f (k : Nat) (l0 : List Int) (a1 : Int) : Option (Bool) := galoisref23_in.l0 k l0 a1 0
set_option maxHeartbeats 8000000 in
set_option maxRecDepth 100000 in
theorem galoisref23_in.calls (k : Nat) (A0 : Option Addr) (c0 : Nat) (l0 : List Int) (a1 : Int) (r : Bool) (w : World) (hr0 : Kd.C (Kd.int .i64) w A0 l0.length l0) (hc0 : l0.length ≤ c0) (h : galoisref23_in.f k l0 a1 = some r) :
  Calls Tryz.prog 73 #[.slice A0 l0.length c0, .int .i64 a1] w fun e w' => e = .returned (.bool r) ∧ Drawn0 w w' := by
 have HR0 := Aside0.mk hr0
 have HC0 := Aside0.mk hc0
 clear hr0 hc0
 have H : (galoisref23_in.l0 k l0 a1 0) = some r := h
 clear h
 have H' := Aside0.mk H
 clear H
 go_enter Tryz.func73, Tryz.ntmps73
 go_wp2
 go_loopg [5] k (fun kq v5 w' => ∃ (x5_1 : Int), v5 = .int .i64 x5_1 ∧ Aside0 (galoisref23_in.l0 kq l0 a1 x5_1 = some r) ∧ Aside0 (kq ≤ k) ∧ Drawn0 w w')
 case atStart => exact ⟨(0), (by first | rfl | (simp;done) | (simp [*];done)), H', ⟨Nat.le_refl _⟩, by repeat (first|exact Drawn0.refl _ | apply Drawn0.step)⟩
 case round =>
  clear H'
  try clear p2
  obtain ⟨x5_1, rfl, HA, HK1, ⟨m1, rfl⟩⟩ := hrel
  cases gk with
  | zero => exact absurd HA.out (by simp [galoisref23_in.l0])
  | succ k1 =>
   have H := HA.out
   clear HA
   simp only [galoisref23_in.l0] at H
   by_cases c3 : x5_1 < (l0.length : Int)
   ·rw [if_pos c3] at H
    have c3b0 : decide (x5_1 < (l0.length : Int)) = true := decide_eq_true c3
    clear c3
    by_cases c4 : 0 ≤ x5_1
    ·rw [if_pos c4] at H
     have c4b0 : decide (0 ≤ x5_1) = true := decide_eq_true c4
     clear c4
     by_cases c5 : (rd l0 x5_1) = a1
     ·rw [if_pos c5] at H
      have c5b0 : ((rd l0 x5_1) == a1) = true := beq_iff_eq.mpr c5
      have c5b1 : ((rd l0 x5_1) != a1) = false := bne_eq_false_iff_eq.mpr c5
      clear c5
      obtain rfl := Option.some.inj H
      have p165 : 0 ≤ (x5_1 : Int) := of_decide_eq_true (by first | (with_reducible assumption) | assumption)
      have q165 : x5_1 < (l0.length : Int) := of_decide_eq_true (by first | (with_reducible assumption) | assumption)
      obtain ⟨ad165, e165, hx165_0⟩ := Kd.at_int HR0.out x5_1 p165 q165
      cases e165
      replace p165 := eq_true p165
      replace q165 := eq_true q165
      go_wp2
      go_ret
      exact ⟨by first | rfl | (simp;done) | (simp [*];done), by repeat (first|exact Drawn0.refl _ | apply Drawn0.step)⟩
     ·rw [if_neg c5] at H
      have c5b0 : ((rd l0 x5_1) == a1) = false := beq_eq_false_iff_ne.mpr c5
      have c5b1 : ((rd l0 x5_1) != a1) = true := bne_iff_ne.mpr c5
      have H' := Aside0.mk H
      clear H
      have p165 : 0 ≤ (x5_1 : Int) := of_decide_eq_true (by first | (with_reducible assumption) | assumption)
      have q165 : x5_1 < (l0.length : Int) := of_decide_eq_true (by first | (with_reducible assumption) | assumption)
      obtain ⟨ad165, e165, hx165_0⟩ := Kd.at_int HR0.out x5_1 p165 q165
      cases e165
      replace p165 := eq_true p165
      replace q165 := eq_true q165
      go_wp2
      go_roundg k1
      case measure => have := HK1.out;omega
      case rel => exact ⟨(wrap64 (x5_1 + 1)), (by first | rfl | (simp;done) | (simp [*];done)), H', ⟨by have := HK1.out;omega⟩, by repeat (first|exact Drawn0.refl _ | apply Drawn0.step)⟩
    ·rw [if_neg c4] at H
     exact absurd H (by simp)
   ·rw [if_neg c3] at H
    have c3b0 : decide (x5_1 < (l0.length : Int)) = false := decide_eq_false c3
    clear c3
    obtain rfl := Option.some.inj H
    go_wp2
    go_ret
    exact ⟨by first | rfl | (simp;done) | (simp [*];done), by repeat (first|exact Drawn0.refl _ | apply Drawn0.step)⟩
mutual
def galoisref23_Keeping.l0 : Nat → List (List Int) → List Int → List (List Int) → Int → Option ((List (List Int)))
 | 0, _, _, _, _ => none
 | k + 1, x0, x1, x5, x6 => if x6 < (x0.length : Int) then (galoisref23_Keeping.l1 k x0 x1 x5 x6 true 0) else (some x5)
def galoisref23_Keeping.l1 : Nat → List (List Int) → List Int → List (List Int) → Int → Bool → Int → Option ((List (List Int)))
 | 0, _, _, _, _, _, _ => none
 | k + 1, x0, x1, x5, x6, x7, x8 => if x8 < (x1.length : Int) then (if x7 = true then (if 0 ≤ x6 then (if x6 < (x0.length : Int) then (if 0 ≤ x8 then (if 0 ≤ (rd x1 x8) then (if (rd x1 x8) < ((rd_L1 x0 x6).length : Int) then ((galoisref23_in.f k x1 (rd (rd_L1 x0 x6) (rd x1 x8))).bind fun t169 => (galoisref23_Keeping.l1 k x0 x1 x5 x6 t169 (wrap64 (x8 + 1)))) else (none)) else (none)) else (none)) else (none)) else (none)) else (galoisref23_Keeping.l1 k x0 x1 x5 x6 false (wrap64 (x8 + 1)))) else (if x7 = true then (if 0 ≤ x6 then (if x6 < (x0.length : Int) then (if x5.length < 5864062014805 then (galoisref23_Keeping.l0 k x0 x1 (x5 ++ [rd_L1 x0 x6]) (wrap64 (x6 + 1))) else (none)) else (none)) else (none)) else (galoisref23_Keeping.l0 k x0 x1 x5 (wrap64 (x6 + 1))))
end
def galoisref23_Keeping.f (k : Nat) (l0 : List (List Int)) (l1 : List Int) : Option ((List (List Int))) := galoisref23_Keeping.l0 k l0 l1 ([] : List (List Int)) 0
set_option maxHeartbeats 8000000 in
set_option maxRecDepth 100000 in
theorem galoisref23_Keeping.calls (k : Nat) (P0_ : Nat → Prop) (A0 : Option Addr) (c0 : Nat) (l0 : List (List Int)) (A1 : Option Addr) (c1 : Nat) (l1 : List Int) (r : List (List Int)) (w : World) (hs0 : Kd.V (Kd.slice 3 (Kd.int .i64)) 39 w w.heap.size (fun k_ => P0_ k_) (.slice A0 l0.length c0) l0) (hr1 : Kd.C (Kd.int .i64) w A1 l1.length l1) (hc1 : l1.length ≤ c1) (h : galoisref23_Keeping.f k l0 l1 = some r) :
  Calls Tryz.prog 27 #[.slice A0 l0.length c0, .slice A1 l1.length c1] w fun e w' => ∃ v0_ : Value, e = .returned (v0_) ∧ Kd.N (Kd.slice 3 (Kd.int .i64)) 39 w' w.heap.size (fun k_ => (P0_ k_ ∨ w.heap.size ≤ k_)) v0_ r ∧ Below w.heap.size w w' := by
 have HO0 := Aside0.mk (show Kd.V (Kd.slice 3 (Kd.int .i64)) 39 w w.heap.size (fun k_ => (P0_ k_ ∨ w.heap.size ≤ k_)) (.slice A0 l0.length c0) l0 from Kd.V_mono hs0 (fun k_ hk => .inl hk))
 have HR1 := Aside0.mk hr1
 have HC1 := Aside0.mk hc1
 clear hr1 hc1
 have HB := Aside0.mk (Below.refl w.heap.size w)
 have H : (galoisref23_Keeping.l0 k l0 l1 ([] : List (List Int)) 0) = some r := h
 clear h
 have H' := Aside0.mk H
 clear H
 go_enter Tryz.func27, Tryz.ntmps27
 go_wp2
 repeat (go_quiet (fail);try go_wp2)
 go_loopg [5, 6] k (fun kq v5 v6 w' => ∃ (x5_1 : List (List Int)) (x6_1 : Int), v6 = .int .i64 x6_1 ∧ Aside0 (galoisref23_Keeping.l0 kq l0 l1 x5_1 x6_1 = some r) ∧ Aside0 (kq ≤ k) ∧ Aside0 (Kd.V (Kd.slice 3 (Kd.int .i64)) 39 w' w.heap.size (fun k_ => (P0_ k_ ∨ w.heap.size ≤ k_) ∧ some k_ ≠ (v5 : Value).ownBlock) (.slice A0 l0.length c0) l0) ∧ Aside0 (Kd.N (Kd.slice 3 (Kd.int .i64)) 39 w' w.heap.size (fun k_ => (P0_ k_ ∨ w.heap.size ≤ k_)) v5 x5_1) ∧ Aside0 (Below w.heap.size w w'))
 case atStart => exact ⟨(([] : List (List Int))), (0), (by first | rfl | (simp;done) | (simp [*];done)), H', ⟨Nat.le_refl _⟩, ⟨by (with_reducible repeat (first|apply Kd.V_alloc | apply Kd.V_drewN | apply Kd.V_drew));exact Kd.V_mono HO0.out (fun _ hk => ⟨hk, (by simp [Value.ownBlock])⟩)⟩, ⟨by first | exact Kd.S_nil _ _ _ _ _ | exact Kd.N_nil _ _ _ _ _ | exact Kd.V_nil _ _ _ _ _ | exact Kd.Q_nil _ _ _ _ _ | exact Kd.R_nil _ _ _ _ _⟩, ⟨by repeat (first|(with_reducible first | exact HB.out | apply below_alloc | apply pw_below_drewN | apply below_drew1) | exact HB.out)⟩⟩
 case round =>
  clear H'
  try clear c1
  try clear c2
  try clear p2
  obtain ⟨x5_1, x6_1, rfl, HA, HK1, HO_0, HO_5, HB⟩ := hrel
  cases gk with
  | zero => exact absurd HA.out (by simp [galoisref23_Keeping.l0])
  | succ k1 =>
   have H := HA.out
   clear HA
   simp only [galoisref23_Keeping.l0] at H
   by_cases c3 : x6_1 < (l0.length : Int)
   ·rw [if_pos c3] at H
    have c3b0 : decide (x6_1 < (l0.length : Int)) = true := decide_eq_true c3
    clear c3
    have H' := Aside0.mk H
    clear H
    go_wp2
    repeat (go_quiet (fail);try go_wp2)
    go_loopg [7, 8] k1 (fun kq v7 v8 w' => ∃ (x7_2 : Bool) (x8_2 : Int), v7 = .bool x7_2 ∧ v8 = .int .i64 x8_2 ∧ Aside0 (galoisref23_Keeping.l1 kq l0 l1 x5_1 x6_1 x7_2 x8_2 = some r) ∧ Aside0 (kq ≤ k1) ∧ Aside0 (Kd.V (Kd.slice 3 (Kd.int .i64)) 39 w' w.heap.size (fun k_ => (P0_ k_ ∨ w.heap.size ≤ k_) ∧ some k_ ≠ (u5 : Value).ownBlock) (.slice A0 l0.length c0) l0) ∧ Aside0 (Kd.N (Kd.slice 3 (Kd.int .i64)) 39 w' w.heap.size (fun k_ => (P0_ k_ ∨ w.heap.size ≤ k_)) u5 x5_1) ∧ Aside0 (Below w.heap.size w w'))
    case atStart => exact ⟨(true), (0), (by first | rfl | (simp;done) | (simp [*];done)), (by first | rfl | (simp;done) | (simp [*];done)), H', ⟨Nat.le_refl _⟩, ⟨by (with_reducible repeat (first|apply Kd.V_alloc | apply Kd.V_drewN | apply Kd.V_drew));exact HO_0.out⟩, ⟨by (with_reducible repeat (first|apply Kd.N_alloc | apply Kd.N_drewN | apply Kd.N_drew));exact HO_5.out⟩, ⟨by repeat (first|(with_reducible first | exact HB.out | apply below_alloc | apply pw_below_drewN | apply below_drew1) | exact HB.out)⟩⟩
    case round =>
     clear H'
     try clear c1
     try clear c2
     try clear p2
     try clear c3
     try clear c3b0
     try clear p2
     obtain ⟨x7_2, x8_2, rfl, rfl, HA, HK2, HO_0, HO_5, HB⟩ := hrel
     cases gk with
     | zero => exact absurd HA.out (by simp [galoisref23_Keeping.l1])
     | succ k2 =>
      have H := HA.out
      clear HA
      simp only [galoisref23_Keeping.l1] at H
      by_cases c4 : x8_2 < (l1.length : Int)
      ·rw [if_pos c4] at H
       have c4b0 : decide (x8_2 < (l1.length : Int)) = true := decide_eq_true c4
       clear c4
       by_cases c5 : x7_2 = true
       ·subst c5
        have H1 : (if 0 ≤ x6_1 then (if x6_1 < (l0.length : Int) then (if 0 ≤ x8_2 then (if 0 ≤ (rd l1 x8_2) then (if (rd l1 x8_2) < ((rd_L1 l0 x6_1).length : Int) then ((galoisref23_in.f k2 l1 (rd (rd_L1 l0 x6_1) (rd l1 x8_2))).bind fun t169 => (galoisref23_Keeping.l1 k2 l0 l1 x5_1 x6_1 t169 (wrap64 (x8_2 + 1)))) else (none)) else (none)) else (none)) else (none)) else (none)) = some r := by rw [if_pos rfl] at H;exact H
        clear H
        have H := H1
        clear H1
        by_cases c6 : 0 ≤ x6_1
        ·rw [if_pos c6] at H
         have c6b0 : decide (0 ≤ x6_1) = true := decide_eq_true c6
         clear c6
         by_cases c7 : x6_1 < (l0.length : Int)
         ·rw [if_pos c7] at H
          have c7b0 : decide (x6_1 < (l0.length : Int)) = true := decide_eq_true c7
          clear c7
          by_cases c8 : 0 ≤ x8_2
          ·rw [if_pos c8] at H
           have c8b0 : decide (0 ≤ x8_2) = true := decide_eq_true c8
           clear c8
           by_cases c9 : 0 ≤ (rd l1 x8_2)
           ·rw [if_pos c9] at H
            have c9b0 : decide (0 ≤ (rd l1 x8_2)) = true := decide_eq_true c9
            clear c9
            by_cases c10 : (rd l1 x8_2) < ((rd_L1 l0 x6_1).length : Int)
            ·rw [if_pos c10] at H
             have c10b0 : decide ((rd l1 x8_2) < ((rd_L1 l0 x6_1).length : Int)) = true := decide_eq_true c10
             clear c10
             replace H := Option.bind_eq_some_iff.mp H
             obtain ⟨t169, A110, H⟩ := H
             replace H : (galoisref23_Keeping.l1 k2 l0 l1 x5_1 x6_1 t169 (wrap64 (x8_2 + 1))) = some r := H
             have A11 := Aside0.mk A110
             clear A110
             have H' := Aside0.mk H
             clear H
             have p166 : 0 ≤ (x6_1 : Int) := of_decide_eq_true (by first | (with_reducible assumption) | assumption)
             have q166 : x6_1 < (l0.length : Int) := of_decide_eq_true (by first | (with_reducible assumption) | assumption)
             obtain ⟨ad166, A166_0, c166_0, e166, hx166_0, hl166_0, hi166_0⟩ := at_L1 (Kd.V_reads' HO_0.out).2.2 x6_1 p166 q166
             cases e166
             obtain ⟨ce166, hce166, hMe166, hcc166⟩ := Kd.V_get HO_0.out [] x6_1 p166 (by first | exact q166 | exact of_decide_eq_true (by first | (with_reducible assumption) | assumption) | (have e_ := (Kd.V_reads' HO_0.out).1;omega))
             obtain ⟨ua166_0, uc166_0, rfl, ul166_0, ge166_0⟩ := Kd.FK_slice_open hMe166
             have hv166_0 := hcc166 0 _ rfl
             rw [Nat.add_zero, show ((Kd.slice 3 (Kd.int .i64))).sz = 1 from rfl, Nat.mul_one] at hv166_0
             replace hv166_0 := Option.some.inj (hv166_0.symm.trans hx166_0)
             injection hv166_0 with hva_ hvn_ hvc_
             rw [hva_] at ge166_0
             rw [hvc_] at ul166_0
             have HL166_0 := Aside0.mk (show Kd.V (Kd.int .i64) 3 _ w.heap.size _ _ (rd_L1 l0 x6_1) from Kd.V_mk ul166_0 ge166_0)
             clear hva_ hvn_ hvc_ ge166_0 ul166_0
             clear hcc166 hce166
             have HR166_0 := Aside0.mk hi166_0
             have HC166_0 := Aside0.mk hl166_0
             clear hi166_0 hl166_0
             replace p166 := eq_true p166
             replace q166 := eq_true q166
             have p167 : 0 ≤ (x8_2 : Int) := of_decide_eq_true (by first | (with_reducible assumption) | assumption)
             have q167 : x8_2 < (l1.length : Int) := of_decide_eq_true (by first | (with_reducible assumption) | assumption)
             obtain ⟨ad167, e167, hx167_0⟩ := Kd.at_int HR1.out x8_2 p167 q167
             cases e167
             try (replace hx167_0 := (HB.out.cell (World.block_lt_of_cell? w _ hx167_0)).trans hx167_0)
             replace p167 := eq_true p167
             replace q167 := eq_true q167
             have p168 : 0 ≤ ((rd l1 x8_2) : Int) := of_decide_eq_true (by first | (with_reducible assumption) | assumption)
             have q168 : (rd l1 x8_2) < ((rd_L1 l0 x6_1).length : Int) := of_decide_eq_true (by first | (with_reducible assumption) | assumption)
             obtain ⟨ad168, e168, hx168_0⟩ := Kd.at_int (by repeat (first|(with_reducible exact HR166_0.out) | (with_reducible refine Kd.C_alloc ?_ _) | (with_reducible refine Kd.C_drewN ?_ _) | (with_reducible refine Kd.C_drew ?_) | exact HR166_0.out)) (rd l1 x8_2) p168 q168
             cases e168
             replace p168 := eq_true p168
             replace q168 := eq_true q168
             go_wp2_with (first|(go_at_call 73;(with_reducible refine (galoisref23_in.calls k2 _ _ l1 (rd (rd_L1 l0 x6_1) (rd l1 x8_2)) t169 _ ?side1 ?side2 A11.out).mono ?_);(case side1 => repeat (first|exact (Kd.C_below HR1.out HB.out) | (with_reducible refine Kd.C_alloc ?_ _) | (with_reducible refine Kd.C_drewN ?_ _) | (with_reducible refine Kd.C_drew ?_)));(case side2 => exact HC1.out);rintro e w' ⟨rfl, ⟨nd, rfl⟩⟩;(try first | exact ⟨rfl, _, World.drewN_drewN _ _ _⟩ | exact ⟨rfl, _, Eq.trans (World.drewN_drewN _ _ _) (congrArg (World.drewN _) (Nat.add_assoc _ _ _))⟩)))
             first | (with_reducible show Handed _ _ _ _) | (repeat (go_quiet (first|(go_at_call 73;(with_reducible refine (galoisref23_in.calls k2 _ _ l1 (rd (rd_L1 l0 x6_1) (rd l1 x8_2)) t169 _ ?side1 ?side2 A11.out).mono ?_);(case side1 => repeat (first|exact (Kd.C_below HR1.out HB.out) | (with_reducible refine Kd.C_alloc ?_ _) | (with_reducible refine Kd.C_drewN ?_ _) | (with_reducible refine Kd.C_drew ?_)));(case side2 => exact HC1.out);rintro e w' ⟨rfl, ⟨nd, rfl⟩⟩;(try first | exact ⟨rfl, _, World.drewN_drewN _ _ _⟩ | exact ⟨rfl, _, Eq.trans (World.drewN_drewN _ _ _) (congrArg (World.drewN _) (Nat.add_assoc _ _ _))⟩)));try go_wp2_with (first|(go_at_call 73;(with_reducible refine (galoisref23_in.calls k2 _ _ l1 (rd (rd_L1 l0 x6_1) (rd l1 x8_2)) t169 _ ?side1 ?side2 A11.out).mono ?_);(case side1 => repeat (first|exact (Kd.C_below HR1.out HB.out) | (with_reducible refine Kd.C_alloc ?_ _) | (with_reducible refine Kd.C_drewN ?_ _) | (with_reducible refine Kd.C_drew ?_)));(case side2 => exact HC1.out);rintro e w' ⟨rfl, ⟨nd, rfl⟩⟩;(try first | exact ⟨rfl, _, World.drewN_drewN _ _ _⟩ | exact ⟨rfl, _, Eq.trans (World.drewN_drewN _ _ _) (congrArg (World.drewN _) (Nat.add_assoc _ _ _))⟩)))))
             go_roundg k2
             case measure => have := HK1.out;have := HK2.out;omega
             case rel => exact ⟨(t169), (wrap64 (x8_2 + 1)), (by first | rfl | (simp;done) | (simp [*];done)), (by first | rfl | (simp;done) | (simp [*];done)), H', ⟨by have := HK1.out;have := HK2.out;omega⟩, ⟨by (with_reducible repeat (first|apply Kd.V_alloc | apply Kd.V_drewN | apply Kd.V_drew));exact HO_0.out⟩, ⟨by (with_reducible repeat (first|apply Kd.N_alloc | apply Kd.N_drewN | apply Kd.N_drew));exact HO_5.out⟩, ⟨by repeat (first|(with_reducible first | exact HB.out | apply below_alloc | apply pw_below_drewN | apply below_drew1) | exact HB.out)⟩⟩
            ·rw [if_neg c10] at H
             exact absurd H (by simp)
           ·rw [if_neg c9] at H
            exact absurd H (by simp)
          ·rw [if_neg c8] at H
           exact absurd H (by simp)
         ·rw [if_neg c7] at H
          exact absurd H (by simp)
        ·rw [if_neg c6] at H
         exact absurd H (by simp)
       ·replace c5 := Bool.eq_false_iff.mpr c5
        subst c5
        have H1 : (galoisref23_Keeping.l1 k2 l0 l1 x5_1 x6_1 false (wrap64 (x8_2 + 1))) = some r := by rw [if_neg (show ¬ (false = true) by decide)] at H;exact H
        clear H
        have H := H1
        clear H1
        have H' := Aside0.mk H
        clear H
        go_wp2
        first | (with_reducible show Handed _ _ _ _) | (repeat (go_quiet (fail);try go_wp2))
        go_roundg k2
        case measure => have := HK1.out;have := HK2.out;omega
        case rel => exact ⟨(false), (wrap64 (x8_2 + 1)), (by first | rfl | (simp;done) | (simp [*];done)), (by first | rfl | (simp;done) | (simp [*];done)), H', ⟨by have := HK1.out;have := HK2.out;omega⟩, ⟨by (with_reducible repeat (first|apply Kd.V_alloc | apply Kd.V_drewN | apply Kd.V_drew));exact HO_0.out⟩, ⟨by (with_reducible repeat (first|apply Kd.N_alloc | apply Kd.N_drewN | apply Kd.N_drew));exact HO_5.out⟩, ⟨by repeat (first|(with_reducible first | exact HB.out | apply below_alloc | apply pw_below_drewN | apply below_drew1) | exact HB.out)⟩⟩
      ·rw [if_neg c4] at H
       have c4b0 : decide (x8_2 < (l1.length : Int)) = false := decide_eq_false c4
       clear c4
       by_cases c12 : x7_2 = true
       ·subst c12
        have H1 : (if 0 ≤ x6_1 then (if x6_1 < (l0.length : Int) then (if x5_1.length < 5864062014805 then (galoisref23_Keeping.l0 k2 l0 l1 (x5_1 ++ [rd_L1 l0 x6_1]) (wrap64 (x6_1 + 1))) else (none)) else (none)) else (none)) = some r := by rw [if_pos rfl] at H;exact H
        clear H
        have H := H1
        clear H1
        by_cases c13 : 0 ≤ x6_1
        ·rw [if_pos c13] at H
         have c13b0 : decide (0 ≤ x6_1) = true := decide_eq_true c13
         clear c13
         by_cases c14 : x6_1 < (l0.length : Int)
         ·rw [if_pos c14] at H
          have c14b0 : decide (x6_1 < (l0.length : Int)) = true := decide_eq_true c14
          clear c14
          by_cases c15 : x5_1.length < 5864062014805
          ·rw [if_pos c15] at H
           have LMc15 := Aside0.mk c15
           clear c15
           obtain ⟨y171, hy171⟩ : ∃ y_ : List (List Int), y_ = (x5_1 ++ [rd_L1 l0 x6_1]) := ⟨_, rfl⟩
           replace H : (galoisref23_Keeping.l0 k2 l0 l1 y171 (wrap64 (x6_1 + 1))) = some r := by first | (rw [hy171];with_reducible exact H) | (have H2_ := (Option.bind_some _ _).symm.trans H;rw [hy171];with_reducible exact H2_) | (have H2_ := (Option.bind_some _ _).symm.trans H;with_reducible exact H2_) | with_reducible exact H | (rw [hy171];exact H) | exact H
           have Ny171 := Aside0.mk hy171
           clear hy171
           have H' := Aside0.mk H
           clear H
           have p170 : 0 ≤ (x6_1 : Int) := of_decide_eq_true (by first | (with_reducible assumption) | assumption)
           have q170 : x6_1 < (l0.length : Int) := of_decide_eq_true (by first | (with_reducible assumption) | assumption)
           obtain ⟨ad170, A170_0, c170_0, e170, hx170_0, hl170_0, hi170_0⟩ := at_L1 (Kd.V_reads' HO_0.out).2.2 x6_1 p170 q170
           cases e170
           obtain ⟨ce170, hce170, hMe170, hcc170⟩ := Kd.V_get HO_0.out [] x6_1 p170 (by first | exact q170 | exact of_decide_eq_true (by first | (with_reducible assumption) | assumption) | (have e_ := (Kd.V_reads' HO_0.out).1;omega))
           obtain ⟨ua170_0, uc170_0, rfl, ul170_0, ge170_0⟩ := Kd.FK_slice_open hMe170
           have hv170_0 := hcc170 0 _ rfl
           rw [Nat.add_zero, show ((Kd.slice 3 (Kd.int .i64))).sz = 1 from rfl, Nat.mul_one] at hv170_0
           replace hv170_0 := Option.some.inj (hv170_0.symm.trans hx170_0)
           injection hv170_0 with hva_ hvn_ hvc_
           rw [hva_] at ge170_0
           rw [hvc_] at ul170_0
           have HL170_0 := Aside0.mk (show Kd.V (Kd.int .i64) 3 _ w.heap.size _ _ (rd_L1 l0 x6_1) from Kd.V_mk ul170_0 ge170_0)
           clear hva_ hvn_ hvc_ ge170_0 ul170_0
           clear hcc170 hce170
           have HR170_0 := Aside0.mk hi170_0
           have HC170_0 := Aside0.mk hl170_0
           clear hi170_0 hl170_0
           replace p170 := eq_true p170
           replace q170 := eq_true q170
           go_wp2_with (first|((with_reducible refine gate_builtin (b := .append) (xs := #[.tmp 37, .tmp 42]) rfl ?_);at_builtin;refine Kd.N_append (Kd.slice 3 (Kd.int .i64)) (w0 := w) w.heap.size rfl (.tmp 37) (.tmp 42) 22 39 (.slice none 0 0) 24 rfl Tryz.underlying22 info39 rfl (by decide) (by omega) u5 x5_1 (rd_L1 l0 x6_1) [.slice A170_0 (rd_L1 l0 x6_1).length c170_0] (fun k_ => (P0_ k_ ∨ w.heap.size ≤ k_)) (fun k_ => ((fun k_ => (P0_ k_ ∨ w.heap.size ≤ k_))) k_ ∧ some k_ ≠ (u5 : Value).ownBlock) rfl rfl ?aP (fun _ hk => hk) ?aF ?aO ?aB ?aS ?aL ?_;(case aP => first | exact (Kd.FK_slice_mk (Kd.V_reads' (Kd.V_mono (ok' := (fun k_ => ((fun k_ => (P0_ k_ ∨ w.heap.size ≤ k_))) k_ ∧ some k_ ≠ (u5 : Value).ownBlock)) (HL170_0.out) (fun k_ hk => ⟨hk.1, hk.2⟩))).2.1 (Kd.V_F (Kd.V_mono (ok' := (fun k_ => ((fun k_ => (P0_ k_ ∨ w.heap.size ≤ k_))) k_ ∧ some k_ ≠ (u5 : Value).ownBlock)) (HL170_0.out) (fun k_ hk => ⟨hk.1, hk.2⟩)))) | (refine Kd.FK_slice_mk (Kd.V_reads' HL170_0.out).2.1 ?_;(with_reducible repeat (first|apply Kd.F_alloc | apply Kd.F_drewN | apply Kd.F_drew));exact (Kd.V_F (Kd.V_mono (ok' := (fun k_ => ((fun k_ => (P0_ k_ ∨ w.heap.size ≤ k_))) k_ ∧ some k_ ≠ (u5 : Value).ownBlock)) (HL170_0.out) (fun k_ hk => ⟨hk.1, hk.2⟩)))));(case aB => exact (by repeat (first|(with_reducible first | exact HB.out | apply below_alloc | apply pw_below_drewN | apply below_drew1) | exact HB.out)));(case aF => exact (fun k_ hk => (.inr (Nat.le_trans (below_size (by repeat (first|(with_reducible first | exact HB.out | apply below_alloc | apply pw_below_drewN | apply below_drew1) | exact HB.out))) hk))));(case aO => exact (by (with_reducible repeat (first|apply Kd.N_alloc | apply Kd.N_drewN | apply Kd.N_drew));exact HO_5.out));(case aS => exact (below_size (by repeat (first|(with_reducible first | exact HB.out | apply below_alloc | apply pw_below_drewN | apply below_drew1) | exact HB.out))));(case aL => have := LMc15.out;omega);intro v172 w16 ho hb hg hat;rw [← Ny171.out] at ho;have n0_ := Aside0.mk (Kd.V_afterv (ok := (fun k_ => (P0_ k_ ∨ w.heap.size ≤ k_))) (by (with_reducible repeat (first|apply Kd.V_alloc | apply Kd.V_drewN | apply Kd.V_drew));exact HO_0.out) hg hat);have n1_ := Aside0.mk (Kd.V_afterv (ok := (fun k_ => (P0_ k_ ∨ w.heap.size ≤ k_))) (by (with_reducible repeat (first|apply Kd.V_alloc | apply Kd.V_drewN | apply Kd.V_drew));exact HL170_0.out) hg hat);have n2_ := Aside0.mk (hb);have n3_ := Aside0.mk (ho);clear HO_0;clear HL170_0;clear HB;clear HO_5;have HO_0 := n0_;have HL170_0 := n1_;have HB := n2_;have HO173 := n3_;clear n0_ n1_ n2_ n3_;clear ho hb hg hat))
           first | (with_reducible show Handed _ _ _ _) | (repeat (go_quiet (first|((with_reducible refine gate_builtin (b := .append) (xs := #[.tmp 37, .tmp 42]) rfl ?_);at_builtin;refine Kd.N_append (Kd.slice 3 (Kd.int .i64)) (w0 := w) w.heap.size rfl (.tmp 37) (.tmp 42) 22 39 (.slice none 0 0) 24 rfl Tryz.underlying22 info39 rfl (by decide) (by omega) u5 x5_1 (rd_L1 l0 x6_1) [.slice A170_0 (rd_L1 l0 x6_1).length c170_0] (fun k_ => (P0_ k_ ∨ w.heap.size ≤ k_)) (fun k_ => ((fun k_ => (P0_ k_ ∨ w.heap.size ≤ k_))) k_ ∧ some k_ ≠ (u5 : Value).ownBlock) rfl rfl ?aP (fun _ hk => hk) ?aF ?aO ?aB ?aS ?aL ?_;(case aP => first | exact (Kd.FK_slice_mk (Kd.V_reads' (Kd.V_mono (ok' := (fun k_ => ((fun k_ => (P0_ k_ ∨ w.heap.size ≤ k_))) k_ ∧ some k_ ≠ (u5 : Value).ownBlock)) (HL170_0.out) (fun k_ hk => ⟨hk.1, hk.2⟩))).2.1 (Kd.V_F (Kd.V_mono (ok' := (fun k_ => ((fun k_ => (P0_ k_ ∨ w.heap.size ≤ k_))) k_ ∧ some k_ ≠ (u5 : Value).ownBlock)) (HL170_0.out) (fun k_ hk => ⟨hk.1, hk.2⟩)))) | (refine Kd.FK_slice_mk (Kd.V_reads' HL170_0.out).2.1 ?_;(with_reducible repeat (first|apply Kd.F_alloc | apply Kd.F_drewN | apply Kd.F_drew));exact (Kd.V_F (Kd.V_mono (ok' := (fun k_ => ((fun k_ => (P0_ k_ ∨ w.heap.size ≤ k_))) k_ ∧ some k_ ≠ (u5 : Value).ownBlock)) (HL170_0.out) (fun k_ hk => ⟨hk.1, hk.2⟩)))));(case aB => exact (by repeat (first|(with_reducible first | exact HB.out | apply below_alloc | apply pw_below_drewN | apply below_drew1) | exact HB.out)));(case aF => exact (fun k_ hk => (.inr (Nat.le_trans (below_size (by repeat (first|(with_reducible first | exact HB.out | apply below_alloc | apply pw_below_drewN | apply below_drew1) | exact HB.out))) hk))));(case aO => exact (by (with_reducible repeat (first|apply Kd.N_alloc | apply Kd.N_drewN | apply Kd.N_drew));exact HO_5.out));(case aS => exact (below_size (by repeat (first|(with_reducible first | exact HB.out | apply below_alloc | apply pw_below_drewN | apply below_drew1) | exact HB.out))));(case aL => have := LMc15.out;omega);intro v172 w16 ho hb hg hat;rw [← Ny171.out] at ho;have n0_ := Aside0.mk (Kd.V_afterv (ok := (fun k_ => (P0_ k_ ∨ w.heap.size ≤ k_))) (by (with_reducible repeat (first|apply Kd.V_alloc | apply Kd.V_drewN | apply Kd.V_drew));exact HO_0.out) hg hat);have n1_ := Aside0.mk (Kd.V_afterv (ok := (fun k_ => (P0_ k_ ∨ w.heap.size ≤ k_))) (by (with_reducible repeat (first|apply Kd.V_alloc | apply Kd.V_drewN | apply Kd.V_drew));exact HL170_0.out) hg hat);have n2_ := Aside0.mk (hb);have n3_ := Aside0.mk (ho);clear HO_0;clear HL170_0;clear HB;clear HO_5;have HO_0 := n0_;have HL170_0 := n1_;have HB := n2_;have HO173 := n3_;clear n0_ n1_ n2_ n3_;clear ho hb hg hat));try go_wp2_with (first|((with_reducible refine gate_builtin (b := .append) (xs := #[.tmp 37, .tmp 42]) rfl ?_);at_builtin;refine Kd.N_append (Kd.slice 3 (Kd.int .i64)) (w0 := w) w.heap.size rfl (.tmp 37) (.tmp 42) 22 39 (.slice none 0 0) 24 rfl Tryz.underlying22 info39 rfl (by decide) (by omega) u5 x5_1 (rd_L1 l0 x6_1) [.slice A170_0 (rd_L1 l0 x6_1).length c170_0] (fun k_ => (P0_ k_ ∨ w.heap.size ≤ k_)) (fun k_ => ((fun k_ => (P0_ k_ ∨ w.heap.size ≤ k_))) k_ ∧ some k_ ≠ (u5 : Value).ownBlock) rfl rfl ?aP (fun _ hk => hk) ?aF ?aO ?aB ?aS ?aL ?_;(case aP => first | exact (Kd.FK_slice_mk (Kd.V_reads' (Kd.V_mono (ok' := (fun k_ => ((fun k_ => (P0_ k_ ∨ w.heap.size ≤ k_))) k_ ∧ some k_ ≠ (u5 : Value).ownBlock)) (HL170_0.out) (fun k_ hk => ⟨hk.1, hk.2⟩))).2.1 (Kd.V_F (Kd.V_mono (ok' := (fun k_ => ((fun k_ => (P0_ k_ ∨ w.heap.size ≤ k_))) k_ ∧ some k_ ≠ (u5 : Value).ownBlock)) (HL170_0.out) (fun k_ hk => ⟨hk.1, hk.2⟩)))) | (refine Kd.FK_slice_mk (Kd.V_reads' HL170_0.out).2.1 ?_;(with_reducible repeat (first|apply Kd.F_alloc | apply Kd.F_drewN | apply Kd.F_drew));exact (Kd.V_F (Kd.V_mono (ok' := (fun k_ => ((fun k_ => (P0_ k_ ∨ w.heap.size ≤ k_))) k_ ∧ some k_ ≠ (u5 : Value).ownBlock)) (HL170_0.out) (fun k_ hk => ⟨hk.1, hk.2⟩)))));(case aB => exact (by repeat (first|(with_reducible first | exact HB.out | apply below_alloc | apply pw_below_drewN | apply below_drew1) | exact HB.out)));(case aF => exact (fun k_ hk => (.inr (Nat.le_trans (below_size (by repeat (first|(with_reducible first | exact HB.out | apply below_alloc | apply pw_below_drewN | apply below_drew1) | exact HB.out))) hk))));(case aO => exact (by (with_reducible repeat (first|apply Kd.N_alloc | apply Kd.N_drewN | apply Kd.N_drew));exact HO_5.out));(case aS => exact (below_size (by repeat (first|(with_reducible first | exact HB.out | apply below_alloc | apply pw_below_drewN | apply below_drew1) | exact HB.out))));(case aL => have := LMc15.out;omega);intro v172 w16 ho hb hg hat;rw [← Ny171.out] at ho;have n0_ := Aside0.mk (Kd.V_afterv (ok := (fun k_ => (P0_ k_ ∨ w.heap.size ≤ k_))) (by (with_reducible repeat (first|apply Kd.V_alloc | apply Kd.V_drewN | apply Kd.V_drew));exact HO_0.out) hg hat);have n1_ := Aside0.mk (Kd.V_afterv (ok := (fun k_ => (P0_ k_ ∨ w.heap.size ≤ k_))) (by (with_reducible repeat (first|apply Kd.V_alloc | apply Kd.V_drewN | apply Kd.V_drew));exact HL170_0.out) hg hat);have n2_ := Aside0.mk (hb);have n3_ := Aside0.mk (ho);clear HO_0;clear HL170_0;clear HB;clear HO_5;have HO_0 := n0_;have HL170_0 := n1_;have HB := n2_;have HO173 := n3_;clear n0_ n1_ n2_ n3_;clear ho hb hg hat))))
           go_roundg k2
           case measure => have := HK1.out;have := HK2.out;omega
           case rel => exact ⟨(y171), (wrap64 (x6_1 + 1)), (by first | rfl | (simp;done) | (simp [*];done)), H', ⟨by have := HK1.out;have := HK2.out;omega⟩, ⟨by (with_reducible repeat (first|apply Kd.V_alloc | apply Kd.V_drewN | apply Kd.V_drew));exact HO_0.out⟩, ⟨by (with_reducible repeat (first|apply Kd.N_alloc | apply Kd.N_drewN | apply Kd.N_drew));exact HO173.out⟩, ⟨by repeat (first|(with_reducible first | exact HB.out | apply below_alloc | apply pw_below_drewN | apply below_drew1) | exact HB.out)⟩⟩
          ·rw [if_neg c15] at H
           exact absurd H (by simp)
         ·rw [if_neg c14] at H
          exact absurd H (by simp)
        ·rw [if_neg c13] at H
         exact absurd H (by simp)
       ·replace c12 := Bool.eq_false_iff.mpr c12
        subst c12
        have H1 : (galoisref23_Keeping.l0 k2 l0 l1 x5_1 (wrap64 (x6_1 + 1))) = some r := by rw [if_neg (show ¬ (false = true) by decide)] at H;exact H
        clear H
        have H := H1
        clear H1
        have H' := Aside0.mk H
        clear H
        go_wp2
        first | (with_reducible show Handed _ _ _ _) | (repeat (go_quiet (fail);try go_wp2))
        go_roundg k2
        case measure => have := HK1.out;have := HK2.out;omega
        case rel => exact ⟨(x5_1), (wrap64 (x6_1 + 1)), (by first | rfl | (simp;done) | (simp [*];done)), H', ⟨by have := HK1.out;have := HK2.out;omega⟩, ⟨by (with_reducible repeat (first|apply Kd.V_alloc | apply Kd.V_drewN | apply Kd.V_drew));exact HO_0.out⟩, ⟨by (with_reducible repeat (first|apply Kd.N_alloc | apply Kd.N_drewN | apply Kd.N_drew));exact HO_5.out⟩, ⟨by repeat (first|(with_reducible first | exact HB.out | apply below_alloc | apply pw_below_drewN | apply below_drew1) | exact HB.out)⟩⟩
   ·rw [if_neg c3] at H
    have c3b0 : decide (x6_1 < (l0.length : Int)) = false := decide_eq_false c3
    clear c3
    obtain rfl := Option.some.inj H
    go_wp2
    repeat (go_quiet (fail);try go_wp2)
    go_ret
    exact ⟨_, by first | rfl | (simp [errW_none, errW_some] <;> rfl) | (simp [*, errW_none, errW_some] <;> rfl), by (with_reducible repeat (first|apply Kd.N_alloc | apply Kd.N_drewN | apply Kd.N_drew));exact HO_5.out, by repeat (first|(with_reducible first | exact HB.out | apply below_alloc | apply pw_below_drewN | apply below_drew1) | exact HB.out)⟩
def galoisref23_Points.l0 : Nat → List Int → Int → Int → List (List Int) → Option (Int)
 | 0, _, _, _, _ => none
 | k + 1, x1, x6, x175000, x175001 => if x6 < (x1.length : Int) then (if 0 ≤ x6 then (if (rd x1 x6) < 0 then (some 3) else (if (rd x1 x6) ≥ x175000 then (some 3) else (galoisref23_Points.l0 k x1 (wrap64 (x6 + 1)) x175000 x175001))) else (none)) else (some 0)
def galoisref23_Points.f (k : Nat) (a0_0 : Int) (l0_1 : List (List Int)) (l1 : List Int) : Option (Int) := (galoisref23_Check.f k a0_0 l0_1).bind fun t175 => (if t175 = 0 then (galoisref23_Points.l0 k l1 0 a0_0 l0_1) else (some t175))
set_option maxHeartbeats 8000000 in
set_option maxRecDepth 100000 in
theorem galoisref23_Points.calls (k : Nat) (a0_0 : Int) (A0_1 : Option Addr) (c0_1 : Nat) (l0_1 : List (List Int)) (A1 : Option Addr) (c1 : Nat) (l1 : List Int) (r : Int) (w : World) (hr0_1 : Kd.C (Kd.slice 3 (Kd.int .i64)) w A0_1 l0_1.length l0_1) (hc0_1 : l0_1.length ≤ c0_1) (hr1 : Kd.C (Kd.int .i64) w A1 l1.length l1) (hc1 : l1.length ≤ c1) (h : galoisref23_Points.f k a0_0 l0_1 l1 = some r) :
  Calls Tryz.prog 23 #[.agg #[.int .i64 a0_0, .slice A0_1 l0_1.length c0_1], .slice A1 l1.length c1] w fun e w' => e = .returned (.int .i64 r) ∧ Below w.heap.size w w' := by
 have hu24 := Tryz.underlying24
 have HR0_1 := Aside0.mk hr0_1
 have HC0_1 := Aside0.mk hc0_1
 clear hr0_1 hc0_1
 have HR1 := Aside0.mk hr1
 have HC1 := Aside0.mk hc1
 clear hr1 hc1
 have HB := Aside0.mk (Below.refl w.heap.size w)
 have H : ((galoisref23_Check.f k a0_0 l0_1).bind fun t175 => (if t175 = 0 then (galoisref23_Points.l0 k l1 0 a0_0 l0_1) else (some t175))) = some r := h
 clear h
 replace H := Option.bind_eq_some_iff.mp H
 obtain ⟨t175, A30, H⟩ := H
 replace H : (if t175 = 0 then (galoisref23_Points.l0 k l1 0 a0_0 l0_1) else (some t175)) = some r := H
 have A3 := Aside0.mk A30
 clear A30
 by_cases c4 : t175 = 0
 ·rw [if_pos c4] at H
  have c4b0 : (t175 == 0) = true := beq_iff_eq.mpr c4
  have c4b1 : (t175 != 0) = false := bne_eq_false_iff_eq.mpr c4
  clear c4
  have H' := Aside0.mk H
  clear H
  go_enter Tryz.func23, Tryz.ntmps23
  go_wp2_with (first|((with_reducible refine gate_dst (N := 2) rfl ?_);refine box_event ?hg (N := 2) ?hd (cs := #[.int .i64 a0_0, .slice A0_1 l0_1.length c0_1]) (t := 24) ?hr ?_;(case hd => rfl);(case hg => rfl);(case hr => first | (go_simp;done) | (go_simp;rfl));intro gb174 hg w5 hbox hb;have n0_ := Aside0.mk (below_step (by repeat (first|(with_reducible first | exact HB.out | apply below_alloc | apply pw_below_drewN | apply below_drew1) | exact HB.out)) hb);have n1_ := Aside0.mk (hbox);have n2_ := Aside0.mk ((by rw [hg];exact (below_size (by repeat (first|(with_reducible first | exact HB.out | apply below_alloc | apply pw_below_drewN | apply below_drew1) | exact HB.out))) : w.heap.size ≤ gb174));have n3_ := Aside0.mk ((by rw [hg];exact (below_size (by repeat (first|(with_reducible first | exact HB.out | apply below_alloc | apply pw_below_drewN | apply below_drew1) | exact HB.out))) : w.heap.size ≤ gb174));clear HB;have HB := n0_;have BK174 := n1_;have GW174 := n2_;have GE174 := n3_;clear n0_ n1_ n2_ n3_;clear hb hbox hg;have hcz6_0 : w5.cell? ⟨gb174, 0, none⟩ = some (.int .i64 a0_0) := (blk_cell BK174.out 0).trans rfl;have hcz6_1 : w5.cell? ⟨gb174, 1, none⟩ = some (.slice A0_1 l0_1.length c0_1) := (blk_cell BK174.out 1).trans rfl;have hfz6_0 := blk_frozen BK174.out 0;have hfz6_1 := blk_frozen BK174.out 1) | (go_at_call 46;(with_reducible refine (galoisref23_Check.calls k a0_0 _ _ l0_1 t175 _ ?side1 ?side2 A3.out).mono ?_);(case side1 => repeat (first|exact (Kd.C_below HR0_1.out HB.out) | (with_reducible refine Kd.C_alloc ?_ _) | (with_reducible refine Kd.C_drewN ?_ _) | (with_reducible refine Kd.C_drew ?_)));(case side2 => exact HC0_1.out);rintro e w7 ⟨rfl, hb⟩;have n0_ := Aside0.mk (blk_below (g := gb174) (o := .cells #[.int .i64 a0_0, .slice A0_1 l0_1.length c0_1] 24 (0, 0)) (by (with_reducible repeat (first|refine blk_drewN ?_ _ | refine blk_drew ?_ | refine blk_alloc ?_ _));exact BK174.out) hb);have n1_ := Aside0.mk (below_step (by repeat (first|(with_reducible first | exact HB.out | apply below_alloc | apply pw_below_drewN | apply below_drew1 | refine below_set ?_ GE174.out) | exact HB.out)) hb);clear BK174;clear HB;have BK174 := n0_;have HB := n1_;clear n0_ n1_;(try clear hb);(try clear hb2);(try clear hk);(try clear hi)))
  repeat (go_quiet (first|((with_reducible refine gate_dst (N := 2) rfl ?_);refine box_event ?hg (N := 2) ?hd (cs := #[.int .i64 a0_0, .slice A0_1 l0_1.length c0_1]) (t := 24) ?hr ?_;(case hd => rfl);(case hg => rfl);(case hr => first | (go_simp;done) | (go_simp;rfl));intro gb174 hg w5 hbox hb;have n0_ := Aside0.mk (below_step (by repeat (first|(with_reducible first | exact HB.out | apply below_alloc | apply pw_below_drewN | apply below_drew1) | exact HB.out)) hb);have n1_ := Aside0.mk (hbox);have n2_ := Aside0.mk ((by rw [hg];exact (below_size (by repeat (first|(with_reducible first | exact HB.out | apply below_alloc | apply pw_below_drewN | apply below_drew1) | exact HB.out))) : w.heap.size ≤ gb174));have n3_ := Aside0.mk ((by rw [hg];exact (below_size (by repeat (first|(with_reducible first | exact HB.out | apply below_alloc | apply pw_below_drewN | apply below_drew1) | exact HB.out))) : w.heap.size ≤ gb174));clear HB;have HB := n0_;have BK174 := n1_;have GW174 := n2_;have GE174 := n3_;clear n0_ n1_ n2_ n3_;clear hb hbox hg;have hcz6_0 : w5.cell? ⟨gb174, 0, none⟩ = some (.int .i64 a0_0) := (blk_cell BK174.out 0).trans rfl;have hcz6_1 : w5.cell? ⟨gb174, 1, none⟩ = some (.slice A0_1 l0_1.length c0_1) := (blk_cell BK174.out 1).trans rfl;have hfz6_0 := blk_frozen BK174.out 0;have hfz6_1 := blk_frozen BK174.out 1) | (go_at_call 46;(with_reducible refine (galoisref23_Check.calls k a0_0 _ _ l0_1 t175 _ ?side1 ?side2 A3.out).mono ?_);(case side1 => repeat (first|exact (Kd.C_below HR0_1.out HB.out) | (with_reducible refine Kd.C_alloc ?_ _) | (with_reducible refine Kd.C_drewN ?_ _) | (with_reducible refine Kd.C_drew ?_)));(case side2 => exact HC0_1.out);rintro e w7 ⟨rfl, hb⟩;have n0_ := Aside0.mk (blk_below (g := gb174) (o := .cells #[.int .i64 a0_0, .slice A0_1 l0_1.length c0_1] 24 (0, 0)) (by (with_reducible repeat (first|refine blk_drewN ?_ _ | refine blk_drew ?_ | refine blk_alloc ?_ _));exact BK174.out) hb);have n1_ := Aside0.mk (below_step (by repeat (first|(with_reducible first | exact HB.out | apply below_alloc | apply pw_below_drewN | apply below_drew1 | refine below_set ?_ GE174.out) | exact HB.out)) hb);clear BK174;clear HB;have BK174 := n0_;have HB := n1_;clear n0_ n1_;(try clear hb);(try clear hb2);(try clear hk);(try clear hi)));try go_wp2_with (first|((with_reducible refine gate_dst (N := 2) rfl ?_);refine box_event ?hg (N := 2) ?hd (cs := #[.int .i64 a0_0, .slice A0_1 l0_1.length c0_1]) (t := 24) ?hr ?_;(case hd => rfl);(case hg => rfl);(case hr => first | (go_simp;done) | (go_simp;rfl));intro gb174 hg w5 hbox hb;have n0_ := Aside0.mk (below_step (by repeat (first|(with_reducible first | exact HB.out | apply below_alloc | apply pw_below_drewN | apply below_drew1) | exact HB.out)) hb);have n1_ := Aside0.mk (hbox);have n2_ := Aside0.mk ((by rw [hg];exact (below_size (by repeat (first|(with_reducible first | exact HB.out | apply below_alloc | apply pw_below_drewN | apply below_drew1) | exact HB.out))) : w.heap.size ≤ gb174));have n3_ := Aside0.mk ((by rw [hg];exact (below_size (by repeat (first|(with_reducible first | exact HB.out | apply below_alloc | apply pw_below_drewN | apply below_drew1) | exact HB.out))) : w.heap.size ≤ gb174));clear HB;have HB := n0_;have BK174 := n1_;have GW174 := n2_;have GE174 := n3_;clear n0_ n1_ n2_ n3_;clear hb hbox hg;have hcz6_0 : w5.cell? ⟨gb174, 0, none⟩ = some (.int .i64 a0_0) := (blk_cell BK174.out 0).trans rfl;have hcz6_1 : w5.cell? ⟨gb174, 1, none⟩ = some (.slice A0_1 l0_1.length c0_1) := (blk_cell BK174.out 1).trans rfl;have hfz6_0 := blk_frozen BK174.out 0;have hfz6_1 := blk_frozen BK174.out 1) | (go_at_call 46;(with_reducible refine (galoisref23_Check.calls k a0_0 _ _ l0_1 t175 _ ?side1 ?side2 A3.out).mono ?_);(case side1 => repeat (first|exact (Kd.C_below HR0_1.out HB.out) | (with_reducible refine Kd.C_alloc ?_ _) | (with_reducible refine Kd.C_drewN ?_ _) | (with_reducible refine Kd.C_drew ?_)));(case side2 => exact HC0_1.out);rintro e w7 ⟨rfl, hb⟩;have n0_ := Aside0.mk (blk_below (g := gb174) (o := .cells #[.int .i64 a0_0, .slice A0_1 l0_1.length c0_1] 24 (0, 0)) (by (with_reducible repeat (first|refine blk_drewN ?_ _ | refine blk_drew ?_ | refine blk_alloc ?_ _));exact BK174.out) hb);have n1_ := Aside0.mk (below_step (by repeat (first|(with_reducible first | exact HB.out | apply below_alloc | apply pw_below_drewN | apply below_drew1 | refine below_set ?_ GE174.out) | exact HB.out)) hb);clear BK174;clear HB;have BK174 := n0_;have HB := n1_;clear n0_ n1_;(try clear hb);(try clear hb2);(try clear hk);(try clear hi))))
  go_loopg [6] k (fun kq v6 w' => ∃ (x6_1 : Int), v6 = .int .i64 x6_1 ∧ Aside0 (galoisref23_Points.l0 kq l1 x6_1 a0_0 l0_1 = some r) ∧ Aside0 (kq ≤ k) ∧ Aside0 (w'.heap[gb174]? = some (.cells #[.int .i64 a0_0, (.slice A0_1 l0_1.length c0_1)] 24 (0, 0))) ∧ Aside0 (Below w.heap.size w w'))
  case atStart => exact ⟨(0), (by first | rfl | (simp;done) | (simp [*];done)), H', ⟨Nat.le_refl _⟩, ⟨by (with_reducible repeat (first|refine blk_drewN ?_ _ | refine blk_drew ?_ | refine blk_alloc ?_ _));exact BK174.out⟩, ⟨by repeat (first|(with_reducible first | exact HB.out | apply below_alloc | apply pw_below_drewN | apply below_drew1 | refine below_set ?_ GE174.out) | exact HB.out)⟩⟩
  case round =>
   clear H'
   try clear c1
   try clear c2
   try clear p2
   try clear c4
   try clear c4b0
   try clear c4b1
   try clear hcz6_0
   try clear hcz6_1
   try clear hfz6_0
   try clear hfz6_1
   obtain ⟨x6_1, rfl, HA, HK1, BK174, HB⟩ := hrel
   cases gk with
   | zero => exact absurd HA.out (by simp [galoisref23_Points.l0])
   | succ k1 =>
    have H := HA.out
    clear HA
    simp only [galoisref23_Points.l0] at H
    by_cases c8 : x6_1 < (l1.length : Int)
    ·rw [if_pos c8] at H
     have c8b0 : decide (x6_1 < (l1.length : Int)) = true := decide_eq_true c8
     clear c8
     by_cases c9 : 0 ≤ x6_1
     ·rw [if_pos c9] at H
      have c9b0 : decide (0 ≤ x6_1) = true := decide_eq_true c9
      clear c9
      by_cases c10 : (rd l1 x6_1) < 0
      ·rw [if_pos c10] at H
       have c10b0 : decide ((rd l1 x6_1) < 0) = true := decide_eq_true c10
       clear c10
       obtain rfl := Option.some.inj H
       have p176 : 0 ≤ (x6_1 : Int) := of_decide_eq_true (by first | (with_reducible assumption) | assumption)
       have q176 : x6_1 < (l1.length : Int) := of_decide_eq_true (by first | (with_reducible assumption) | assumption)
       obtain ⟨ad176, e176, hx176_0⟩ := Kd.at_int HR1.out x6_1 p176 q176
       cases e176
       try (replace hx176_0 := (HB.out.cell (World.block_lt_of_cell? w _ hx176_0)).trans hx176_0)
       replace p176 := eq_true p176
       replace q176 := eq_true q176
       go_wp2
       repeat (go_quiet (fail);try go_wp2)
       go_ret
       exact ⟨by first | rfl | (simp [errW_none, errW_some] <;> rfl) | (simp [*, errW_none, errW_some] <;> rfl), by repeat (first|(with_reducible first | exact HB.out | apply below_alloc | apply pw_below_drewN | apply below_drew1 | refine below_set ?_ GE174.out) | exact HB.out)⟩
      ·rw [if_neg c10] at H
       have c10b0 : decide ((rd l1 x6_1) < 0) = false := decide_eq_false c10
       clear c10
       by_cases c11 : (rd l1 x6_1) ≥ a0_0
       ·rw [if_pos c11] at H
        have c11b0 : decide (a0_0 ≤ (rd l1 x6_1)) = true := decide_eq_true c11
        clear c11
        obtain rfl := Option.some.inj H
        have p176 : 0 ≤ (x6_1 : Int) := of_decide_eq_true (by first | (with_reducible assumption) | assumption)
        have q176 : x6_1 < (l1.length : Int) := of_decide_eq_true (by first | (with_reducible assumption) | assumption)
        obtain ⟨ad176, e176, hx176_0⟩ := Kd.at_int HR1.out x6_1 p176 q176
        cases e176
        try (replace hx176_0 := (HB.out.cell (World.block_lt_of_cell? w _ hx176_0)).trans hx176_0)
        replace p176 := eq_true p176
        replace q176 := eq_true q176
        have p177 : 0 ≤ (x6_1 : Int) := of_decide_eq_true (by first | (with_reducible assumption) | assumption)
        have q177 : x6_1 < (l1.length : Int) := of_decide_eq_true (by first | (with_reducible assumption) | assumption)
        obtain ⟨ad177, e177, hx177_0⟩ := Kd.at_int HR1.out x6_1 p177 q177
        obtain rfl : ad176 = ad177 := (by injection e177)
        try (replace hx177_0 := (HB.out.cell (World.block_lt_of_cell? w _ hx177_0)).trans hx177_0)
        replace p177 := eq_true p177
        replace q177 := eq_true q177
        have hcz12_0 : wr.cell? ⟨gb174, 0, none⟩ = some (.int .i64 a0_0) := (blk_cell BK174.out 0).trans rfl
        have hcz12_1 : wr.cell? ⟨gb174, 1, none⟩ = some (.slice A0_1 l0_1.length c0_1) := (blk_cell BK174.out 1).trans rfl
        have hfz12_0 := blk_frozen BK174.out 0
        have hfz12_1 := blk_frozen BK174.out 1
        go_wp2
        repeat (go_quiet (fail);try go_wp2)
        go_ret
        exact ⟨by first | rfl | (simp [errW_none, errW_some] <;> rfl) | (simp [*, errW_none, errW_some] <;> rfl), by repeat (first|(with_reducible first | exact HB.out | apply below_alloc | apply pw_below_drewN | apply below_drew1 | refine below_set ?_ GE174.out) | exact HB.out)⟩
       ·rw [if_neg c11] at H
        have c11b0 : decide (a0_0 ≤ (rd l1 x6_1)) = false := decide_eq_false c11
        clear c11
        have H' := Aside0.mk H
        clear H
        have p176 : 0 ≤ (x6_1 : Int) := of_decide_eq_true (by first | (with_reducible assumption) | assumption)
        have q176 : x6_1 < (l1.length : Int) := of_decide_eq_true (by first | (with_reducible assumption) | assumption)
        obtain ⟨ad176, e176, hx176_0⟩ := Kd.at_int HR1.out x6_1 p176 q176
        cases e176
        try (replace hx176_0 := (HB.out.cell (World.block_lt_of_cell? w _ hx176_0)).trans hx176_0)
        replace p176 := eq_true p176
        replace q176 := eq_true q176
        have p177 : 0 ≤ (x6_1 : Int) := of_decide_eq_true (by first | (with_reducible assumption) | assumption)
        have q177 : x6_1 < (l1.length : Int) := of_decide_eq_true (by first | (with_reducible assumption) | assumption)
        obtain ⟨ad177, e177, hx177_0⟩ := Kd.at_int HR1.out x6_1 p177 q177
        obtain rfl : ad176 = ad177 := (by injection e177)
        try (replace hx177_0 := (HB.out.cell (World.block_lt_of_cell? w _ hx177_0)).trans hx177_0)
        replace p177 := eq_true p177
        replace q177 := eq_true q177
        have hcz13_0 : wr.cell? ⟨gb174, 0, none⟩ = some (.int .i64 a0_0) := (blk_cell BK174.out 0).trans rfl
        have hcz13_1 : wr.cell? ⟨gb174, 1, none⟩ = some (.slice A0_1 l0_1.length c0_1) := (blk_cell BK174.out 1).trans rfl
        have hfz13_0 := blk_frozen BK174.out 0
        have hfz13_1 := blk_frozen BK174.out 1
        go_wp2
        first | (with_reducible show Handed _ _ _ _) | (repeat (go_quiet (fail);try go_wp2))
        go_roundg k1
        case measure => have := HK1.out;omega
        case rel => exact ⟨(wrap64 (x6_1 + 1)), (by first | rfl | (simp;done) | (simp [*];done)), H', ⟨by have := HK1.out;omega⟩, ⟨by (with_reducible repeat (first|refine blk_drewN ?_ _ | refine blk_drew ?_ | refine blk_alloc ?_ _));exact BK174.out⟩, ⟨by repeat (first|(with_reducible first | exact HB.out | apply below_alloc | apply pw_below_drewN | apply below_drew1 | refine below_set ?_ GE174.out) | exact HB.out)⟩⟩
     ·rw [if_neg c9] at H
      exact absurd H (by simp)
    ·rw [if_neg c8] at H
     have c8b0 : decide (x6_1 < (l1.length : Int)) = false := decide_eq_false c8
     clear c8
     obtain rfl := Option.some.inj H
     go_wp2
     repeat (go_quiet (fail);try go_wp2)
     go_ret
     exact ⟨by first | rfl | (simp [errW_none, errW_some] <;> rfl) | (simp [*, errW_none, errW_some] <;> rfl), by repeat (first|(with_reducible first | exact HB.out | apply below_alloc | apply pw_below_drewN | apply below_drew1 | refine below_set ?_ GE174.out) | exact HB.out)⟩
 ·rw [if_neg c4] at H
  have c4b0 : (t175 == 0) = false := beq_eq_false_iff_ne.mpr c4
  have c4b1 : (t175 != 0) = true := bne_iff_ne.mpr c4
  obtain rfl := Option.some.inj H
  go_enter Tryz.func23, Tryz.ntmps23
  go_wp2_with (first|((with_reducible refine gate_dst (N := 2) rfl ?_);refine box_event ?hg (N := 2) ?hd (cs := #[.int .i64 a0_0, .slice A0_1 l0_1.length c0_1]) (t := 24) ?hr ?_;(case hd => rfl);(case hg => rfl);(case hr => first | (go_simp;done) | (go_simp;rfl));intro gb174 hg w14 hbox hb;have n0_ := Aside0.mk (below_step (by repeat (first|(with_reducible first | exact HB.out | apply below_alloc | apply pw_below_drewN | apply below_drew1) | exact HB.out)) hb);have n1_ := Aside0.mk (hbox);have n2_ := Aside0.mk ((by rw [hg];exact (below_size (by repeat (first|(with_reducible first | exact HB.out | apply below_alloc | apply pw_below_drewN | apply below_drew1) | exact HB.out))) : w.heap.size ≤ gb174));have n3_ := Aside0.mk ((by rw [hg];exact (below_size (by repeat (first|(with_reducible first | exact HB.out | apply below_alloc | apply pw_below_drewN | apply below_drew1) | exact HB.out))) : w.heap.size ≤ gb174));clear HB;have HB := n0_;have BK174 := n1_;have GW174 := n2_;have GE174 := n3_;clear n0_ n1_ n2_ n3_;clear hb hbox hg;have hcz15_0 : w14.cell? ⟨gb174, 0, none⟩ = some (.int .i64 a0_0) := (blk_cell BK174.out 0).trans rfl;have hcz15_1 : w14.cell? ⟨gb174, 1, none⟩ = some (.slice A0_1 l0_1.length c0_1) := (blk_cell BK174.out 1).trans rfl;have hfz15_0 := blk_frozen BK174.out 0;have hfz15_1 := blk_frozen BK174.out 1) | (go_at_call 46;(with_reducible refine (galoisref23_Check.calls k a0_0 _ _ l0_1 t175 _ ?side1 ?side2 A3.out).mono ?_);(case side1 => repeat (first|exact (Kd.C_below HR0_1.out HB.out) | (with_reducible refine Kd.C_alloc ?_ _) | (with_reducible refine Kd.C_drewN ?_ _) | (with_reducible refine Kd.C_drew ?_)));(case side2 => exact HC0_1.out);rintro e w16 ⟨rfl, hb⟩;have n0_ := Aside0.mk (blk_below (g := gb174) (o := .cells #[.int .i64 a0_0, .slice A0_1 l0_1.length c0_1] 24 (0, 0)) (by (with_reducible repeat (first|refine blk_drewN ?_ _ | refine blk_drew ?_ | refine blk_alloc ?_ _));exact BK174.out) hb);have n1_ := Aside0.mk (below_step (by repeat (first|(with_reducible first | exact HB.out | apply below_alloc | apply pw_below_drewN | apply below_drew1 | refine below_set ?_ GE174.out) | exact HB.out)) hb);clear BK174;clear HB;have BK174 := n0_;have HB := n1_;clear n0_ n1_;(try clear hb);(try clear hb2);(try clear hk);(try clear hi)))
  repeat (go_quiet (first|((with_reducible refine gate_dst (N := 2) rfl ?_);refine box_event ?hg (N := 2) ?hd (cs := #[.int .i64 a0_0, .slice A0_1 l0_1.length c0_1]) (t := 24) ?hr ?_;(case hd => rfl);(case hg => rfl);(case hr => first | (go_simp;done) | (go_simp;rfl));intro gb174 hg w14 hbox hb;have n0_ := Aside0.mk (below_step (by repeat (first|(with_reducible first | exact HB.out | apply below_alloc | apply pw_below_drewN | apply below_drew1) | exact HB.out)) hb);have n1_ := Aside0.mk (hbox);have n2_ := Aside0.mk ((by rw [hg];exact (below_size (by repeat (first|(with_reducible first | exact HB.out | apply below_alloc | apply pw_below_drewN | apply below_drew1) | exact HB.out))) : w.heap.size ≤ gb174));have n3_ := Aside0.mk ((by rw [hg];exact (below_size (by repeat (first|(with_reducible first | exact HB.out | apply below_alloc | apply pw_below_drewN | apply below_drew1) | exact HB.out))) : w.heap.size ≤ gb174));clear HB;have HB := n0_;have BK174 := n1_;have GW174 := n2_;have GE174 := n3_;clear n0_ n1_ n2_ n3_;clear hb hbox hg;have hcz15_0 : w14.cell? ⟨gb174, 0, none⟩ = some (.int .i64 a0_0) := (blk_cell BK174.out 0).trans rfl;have hcz15_1 : w14.cell? ⟨gb174, 1, none⟩ = some (.slice A0_1 l0_1.length c0_1) := (blk_cell BK174.out 1).trans rfl;have hfz15_0 := blk_frozen BK174.out 0;have hfz15_1 := blk_frozen BK174.out 1) | (go_at_call 46;(with_reducible refine (galoisref23_Check.calls k a0_0 _ _ l0_1 t175 _ ?side1 ?side2 A3.out).mono ?_);(case side1 => repeat (first|exact (Kd.C_below HR0_1.out HB.out) | (with_reducible refine Kd.C_alloc ?_ _) | (with_reducible refine Kd.C_drewN ?_ _) | (with_reducible refine Kd.C_drew ?_)));(case side2 => exact HC0_1.out);rintro e w16 ⟨rfl, hb⟩;have n0_ := Aside0.mk (blk_below (g := gb174) (o := .cells #[.int .i64 a0_0, .slice A0_1 l0_1.length c0_1] 24 (0, 0)) (by (with_reducible repeat (first|refine blk_drewN ?_ _ | refine blk_drew ?_ | refine blk_alloc ?_ _));exact BK174.out) hb);have n1_ := Aside0.mk (below_step (by repeat (first|(with_reducible first | exact HB.out | apply below_alloc | apply pw_below_drewN | apply below_drew1 | refine below_set ?_ GE174.out) | exact HB.out)) hb);clear BK174;clear HB;have BK174 := n0_;have HB := n1_;clear n0_ n1_;(try clear hb);(try clear hb2);(try clear hk);(try clear hi)));try go_wp2_with (first|((with_reducible refine gate_dst (N := 2) rfl ?_);refine box_event ?hg (N := 2) ?hd (cs := #[.int .i64 a0_0, .slice A0_1 l0_1.length c0_1]) (t := 24) ?hr ?_;(case hd => rfl);(case hg => rfl);(case hr => first | (go_simp;done) | (go_simp;rfl));intro gb174 hg w14 hbox hb;have n0_ := Aside0.mk (below_step (by repeat (first|(with_reducible first | exact HB.out | apply below_alloc | apply pw_below_drewN | apply below_drew1) | exact HB.out)) hb);have n1_ := Aside0.mk (hbox);have n2_ := Aside0.mk ((by rw [hg];exact (below_size (by repeat (first|(with_reducible first | exact HB.out | apply below_alloc | apply pw_below_drewN | apply below_drew1) | exact HB.out))) : w.heap.size ≤ gb174));have n3_ := Aside0.mk ((by rw [hg];exact (below_size (by repeat (first|(with_reducible first | exact HB.out | apply below_alloc | apply pw_below_drewN | apply below_drew1) | exact HB.out))) : w.heap.size ≤ gb174));clear HB;have HB := n0_;have BK174 := n1_;have GW174 := n2_;have GE174 := n3_;clear n0_ n1_ n2_ n3_;clear hb hbox hg;have hcz15_0 : w14.cell? ⟨gb174, 0, none⟩ = some (.int .i64 a0_0) := (blk_cell BK174.out 0).trans rfl;have hcz15_1 : w14.cell? ⟨gb174, 1, none⟩ = some (.slice A0_1 l0_1.length c0_1) := (blk_cell BK174.out 1).trans rfl;have hfz15_0 := blk_frozen BK174.out 0;have hfz15_1 := blk_frozen BK174.out 1) | (go_at_call 46;(with_reducible refine (galoisref23_Check.calls k a0_0 _ _ l0_1 t175 _ ?side1 ?side2 A3.out).mono ?_);(case side1 => repeat (first|exact (Kd.C_below HR0_1.out HB.out) | (with_reducible refine Kd.C_alloc ?_ _) | (with_reducible refine Kd.C_drewN ?_ _) | (with_reducible refine Kd.C_drew ?_)));(case side2 => exact HC0_1.out);rintro e w16 ⟨rfl, hb⟩;have n0_ := Aside0.mk (blk_below (g := gb174) (o := .cells #[.int .i64 a0_0, .slice A0_1 l0_1.length c0_1] 24 (0, 0)) (by (with_reducible repeat (first|refine blk_drewN ?_ _ | refine blk_drew ?_ | refine blk_alloc ?_ _));exact BK174.out) hb);have n1_ := Aside0.mk (below_step (by repeat (first|(with_reducible first | exact HB.out | apply below_alloc | apply pw_below_drewN | apply below_drew1 | refine below_set ?_ GE174.out) | exact HB.out)) hb);clear BK174;clear HB;have BK174 := n0_;have HB := n1_;clear n0_ n1_;(try clear hb);(try clear hb2);(try clear hk);(try clear hi))))
  go_ret
  exact ⟨by first | rfl | (simp [errW_none, errW_some] <;> rfl) | (simp [*, errW_none, errW_some] <;> rfl), by repeat (first|(with_reducible first | exact HB.out | apply below_alloc | apply pw_below_drewN | apply below_drew1 | refine below_set ?_ GE174.out) | exact HB.out)⟩
end Go.Proofs.YtmbldnoepjmhhaaGreat.PRf
