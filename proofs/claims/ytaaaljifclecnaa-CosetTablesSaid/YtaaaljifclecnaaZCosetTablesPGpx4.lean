-- Printed by wip/tools/mk.py of this repo (the kit's print with turns made in memory).
import Derived.Test.YtaaaljifclecnaaZCosetTablesMg0
import Derived.Test.YtaaaljifclecnaaZCosetTablesPGpx0
import Derived.Test.YtaaaljifclecnaaZCosetTablesPGpx1
import Derived.Test.YtaaaljifclecnaaZCosetTablesPGpx3
namespace Go.Proofs.Ytaaaljifclecnaa.PGp
open Go.RowKit Go.Proofs.YtaaaljifclecnaaW.PrintWords Go.Proofs.YtaaaljifclecnaaW.PrintLast Go.Proofs.YtaaaljifclecnaaW.PrintMore
attribute [local go_sem] max2_int min2_int max_two min_two max_three min_three max_four min_four   -- for this text's walks alone
set_option linter.unusedVariables false
set_option linter.unusedSimpArgs false
mutual
def galoisref27_Core.l0 : Nat → List (List Int) → List (List Int) → List (List Int) → Int → Option ((List (List Int)))
 | 0, _, _, _, _ => none
 | k + 1, x0, x1, x5, x6 => if x6 < (x1.length : Int) then (galoisref27_Core.l1 k x0 x1 x5 x6 true 0) else (some x5)
def galoisref27_Core.l1 : Nat → List (List Int) → List (List Int) → List (List Int) → Int → Bool → Int → Option ((List (List Int)))
 | 0, _, _, _, _, _, _ => none
 | k + 1, x0, x1, x5, x6, x7, x8 => if x8 < (x0.length : Int) then (galoisref27_Core.j2 k x0 x1 x5 x6 x7 x8 x7) else (galoisref27_Core.j2 k x0 x1 x5 x6 x7 x8 false)
def galoisref27_Core.j2 : Nat → List (List Int) → List (List Int) → List (List Int) → Int → Bool → Int → Bool → Option ((List (List Int)))
 | 0, _, _, _, _, _, _, _ => none
 | k + 1, x0, x1, x5, x6, x7, x8, x21 => if x21 = true then (if 0 ≤ x6 then (if x6 < (x1.length : Int) then (if 0 ≤ x8 then (if x8 < (x0.length : Int) then ((galoisref22_Conjugate.f k (rd_L1 x1 x6) (rd_L1 x0 x8)).bind fun t177 => ((galoisref23_Has.f k x1 t177).bind fun t180 => (galoisref27_Core.l1 k x0 x1 x5 x6 t180 (wrap64 (x8 + 1))))) else (none)) else (none)) else (none)) else (none)) else (if x7 = true then (if 0 ≤ x6 then (if x6 < (x1.length : Int) then (if x5.length < 5864062014805 then (galoisref27_Core.l0 k x0 x1 (x5 ++ [rd_L1 x1 x6]) (wrap64 (x6 + 1))) else (none)) else (none)) else (none)) else (galoisref27_Core.l0 k x0 x1 x5 (wrap64 (x6 + 1))))
end
def galoisref27_Core.f (k : Nat) (l0 : List (List Int)) (l1 : List (List Int)) : Option ((List (List Int))) := galoisref27_Core.l0 k l0 l1 ([] : List (List Int)) 0
def galoisref27_Core.T9 : Bool × List (List Nat × List Nat) := (true, [([], []), ([], []), ([], []), ([1, 2], [1, 2]), ([3], [3]), ([], []), ([], []), ([5, 6], [5, 6]), ([7], [7]), ([4, 8], [4, 8]), ([0, 9, 9], [0, 9]), ([10, 10, 0, 1, 2, 3, 4, 5, 6, 7, 8, 9, 10], [10])])
def galoisref27_Core.B9 : List Nat := [0, 0, 0, 6, 14, 0, 0, 96, 224, 510, 1023, 2047]
theorem galoisref27_Core.tab9 : rtab .any (opsOf Try.f19 9) = galoisref27_Core.T9 := by kernel_rfl
theorem galoisref27_Core.bits9 : waitsOk galoisref27_Core.T9.2 galoisref27_Core.B9 = true := by kernel_rfl
set_option maxHeartbeats 8000000 in
set_option maxRecDepth 100000 in
theorem galoisref27_Core.calls (k : Nat) (A0 : Option Addr) (c0 : Nat) (l0 : List (List Int)) (P1_ : Nat → Prop) (A1 : Option Addr) (c1 : Nat) (l1 : List (List Int)) (r : List (List Int)) (w : World) (hr0 : Kd.C (Kd.slice 3 (Kd.int .i64)) w A0 l0.length l0) (hc0 : l0.length ≤ c0) (hs1 : Kd.V (Kd.slice 3 (Kd.int .i64)) 43 w w.heap.size (fun k_ => P1_ k_) (.slice A1 l1.length c1) l1) (h : galoisref27_Core.f k l0 l1 = some r) :
  Calls Try.prog 19 #[.slice A0 l0.length c0, .slice A1 l1.length c1] w fun e w' => ∃ v0_ : Value, e = .returned (v0_) ∧ Kd.N (Kd.slice 3 (Kd.int .i64)) 43 w' w.heap.size (fun k_ => (P1_ k_ ∨ w.heap.size ≤ k_)) v0_ r ∧ Below w.heap.size w w' := by
 have HR0 := Aside0.mk hr0
 have HC0 := Aside0.mk hc0
 clear hr0 hc0
 have HO1 := Aside0.mk (show Kd.V (Kd.slice 3 (Kd.int .i64)) 43 w w.heap.size (fun k_ => (P1_ k_ ∨ w.heap.size ≤ k_)) (.slice A1 l1.length c1) l1 from Kd.V_mono hs1 (fun k_ hk => .inl hk))
 have HB := Aside0.mk (Below.refl w.heap.size w)
 have H : (galoisref27_Core.l0 k l0 l1 ([] : List (List Int)) 0) = some r := h
 clear h
 have H' := Aside0.mk H
 clear H
 go_enter Try.func19, Try.ntmps19
 go_wp2
 go_loopg [5, 6] k (fun kq v5 v6 w' => ∃ (x5_1 : List (List Int)) (x6_1 : Int), v6 = .int .i64 x6_1 ∧ Aside0 (galoisref27_Core.l0 kq l0 l1 x5_1 x6_1 = some r) ∧ Aside0 (kq ≤ k) ∧ Aside0 (Kd.V (Kd.slice 3 (Kd.int .i64)) 43 w' w.heap.size (fun k_ => (P1_ k_ ∨ w.heap.size ≤ k_) ∧ some k_ ≠ (v5 : Value).ownBlock) (.slice A1 l1.length c1) l1) ∧ Aside0 (Kd.N (Kd.slice 3 (Kd.int .i64)) 43 w' w.heap.size (fun k_ => (P1_ k_ ∨ w.heap.size ≤ k_)) v5 x5_1) ∧ Aside0 (Below w.heap.size w w'))
 case atStart => exact ⟨(([] : List (List Int))), (0), (by first | rfl | (simp;done) | (simp [*];done)), H', ⟨Nat.le_refl _⟩, ⟨by (with_reducible repeat (first|apply Kd.V_alloc | apply Kd.V_drewN | apply Kd.V_drew));exact Kd.V_mono HO1.out (fun _ hk => ⟨hk, (by simp [Value.ownBlock])⟩)⟩, ⟨by first | exact Kd.S_nil _ _ _ _ _ | exact Kd.N_nil _ _ _ _ _ | exact Kd.V_nil _ _ _ _ _ | exact Kd.Q_nil _ _ _ _ _ | exact Kd.R_nil _ _ _ _ _⟩, ⟨bel HB.out⟩⟩
 case round =>
  clear H'
  try clear c1
  try clear p2
  obtain ⟨x5_1, x6_1, rfl, HA, HK1, HO_1, HO_5, HB⟩ := hrel
  cases gk with
  | zero => exact absurd HA.out (by simp [galoisref27_Core.l0])
  | succ k1 =>
   have H := HA.out
   clear HA
   simp only [galoisref27_Core.l0] at H
   by_cases c3 : x6_1 < (l1.length : Int)
   ·rw [if_pos c3] at H
    have c3b0 : decide (x6_1 < (l1.length : Int)) = true := decide_eq_true c3
    clear c3
    have H' := Aside0.mk H
    clear H
    go_wp2
    go_loopg [7, 8] k1 (fun kq v7 v8 w' => ∃ (x7_2 : Bool) (x8_2 : Int), v7 = .bool x7_2 ∧ v8 = .int .i64 x8_2 ∧ Aside0 (galoisref27_Core.l1 kq l0 l1 x5_1 x6_1 x7_2 x8_2 = some r) ∧ Aside0 (kq ≤ k1) ∧ Aside0 (Kd.V (Kd.slice 3 (Kd.int .i64)) 43 w' w.heap.size (fun k_ => (P1_ k_ ∨ w.heap.size ≤ k_) ∧ some k_ ≠ (u5 : Value).ownBlock) (.slice A1 l1.length c1) l1) ∧ Aside0 (Kd.N (Kd.slice 3 (Kd.int .i64)) 43 w' w.heap.size (fun k_ => (P1_ k_ ∨ w.heap.size ≤ k_)) u5 x5_1) ∧ Aside0 (Below w.heap.size w w'))
    case atStart => exact ⟨(true), (0), (by first | rfl | (simp;done) | (simp [*];done)), (by first | rfl | (simp;done) | (simp [*];done)), H', ⟨Nat.le_refl _⟩, ⟨Vst HO_1.out⟩, ⟨Nst HO_5.out⟩, ⟨bel HB.out⟩⟩
    case round =>
     clear H'
     try clear c1
     try clear p2
     try clear c3
     try clear c3b0
     try clear p2
     obtain ⟨x7_2, x8_2, rfl, rfl, HA, HK2, HO_1, HO_5, HB⟩ := hrel
     cases gk with
     | zero => exact absurd HA.out (by simp [galoisref27_Core.l1])
     | succ k2 =>
      have H := HA.out
      clear HA
      simp only [galoisref27_Core.l1] at H
      have HC4 := Aside0.mk H
      clear H
      go_upto_region 7 with (fail)
      go_cut [21] (fun v21 wc => ∃ (kq : Nat) (x21_3 : Bool), v21 = .bool x21_3 ∧ Aside0 (galoisref27_Core.j2 kq l0 l1 x5_1 x6_1 x7_2 x8_2 x21_3 = some r) ∧ Aside0 (kq ≤ k2) ∧ Aside0 (Kd.V (Kd.slice 3 (Kd.int .i64)) 43 wc w.heap.size (fun k_ => (P1_ k_ ∨ w.heap.size ≤ k_) ∧ some k_ ≠ (u5 : Value).ownBlock) (.slice A1 l1.length c1) l1) ∧ Aside0 (Kd.N (Kd.slice 3 (Kd.int .i64)) 43 wc w.heap.size (fun k_ => (P1_ k_ ∨ w.heap.size ≤ k_)) u5 x5_1) ∧ Aside0 (Below w.heap.size w wc))
      case first =>
       have H := HC4.out
       clear HC4
       by_cases c5 : x8_2 < (l0.length : Int)
       ·rw [if_pos c5] at H
        have c5b0 : decide (x8_2 < (l0.length : Int)) = true := decide_eq_true c5
        clear c5
        (first|rw [c5b0] | (simp only [i64_w, i32_w];rw [c5b0]) | skip)
        have H' := Aside0.mk H
        clear H
        go_wp2
        go_meet
        case rel => exact ⟨_, (x7_2), (by first | rfl | (simp;done) | (simp [*];done)), H', ⟨by have := HK1.out;have := HK2.out;first | omega | exact Nat.le_refl _⟩, ⟨Vst HO_1.out⟩, ⟨Nst HO_5.out⟩, ⟨bel HB.out⟩⟩
       ·rw [if_neg c5] at H
        have c5b0 : decide (x8_2 < (l0.length : Int)) = false := decide_eq_false c5
        clear c5
        (first|rw [c5b0] | (simp only [i64_w, i32_w];rw [c5b0]) | skip)
        have H' := Aside0.mk H
        clear H
        go_wp2
        go_meet
        case rel => exact ⟨_, (false), (by first | rfl | (simp;done) | (simp [*];done)), H', ⟨by have := HK1.out;have := HK2.out;first | omega | exact Nat.le_refl _⟩, ⟨Vst HO_1.out⟩, ⟨Nst HO_5.out⟩, ⟨bel HB.out⟩⟩
      case rest =>
       clear HC4
       try clear c1
       try clear p2
       try clear c3
       try clear c3b0
       try clear c5
       try clear c5b0
       try clear p2
       obtain ⟨kq, x21_3, rfl, HA, HJ3, HO_1, HO_5, HB⟩ := hcut
       cases kq with
       | zero => exact absurd HA.out (by simp [galoisref27_Core.j2])
       | succ kj3 =>
        have H := HA.out
        clear HA
        simp only [galoisref27_Core.j2] at H
        by_cases c6 : x21_3 = true
        ·subst c6
         have H1 : (if 0 ≤ x6_1 then (if x6_1 < (l1.length : Int) then (if 0 ≤ x8_2 then (if x8_2 < (l0.length : Int) then ((galoisref22_Conjugate.f kj3 (rd_L1 l1 x6_1) (rd_L1 l0 x8_2)).bind fun t177 => ((galoisref23_Has.f kj3 l1 t177).bind fun t180 => (galoisref27_Core.l1 kj3 l0 l1 x5_1 x6_1 t180 (wrap64 (x8_2 + 1))))) else (none)) else (none)) else (none)) else (none)) = some r := by rw [if_pos rfl] at H;exact H
         clear H
         have H := H1
         clear H1
         by_cases c7 : 0 ≤ x6_1
         ·rw [if_pos c7] at H
          have c7b0 : decide (0 ≤ x6_1) = true := decide_eq_true c7
          clear c7
          by_cases c8 : x6_1 < (l1.length : Int)
          ·rw [if_pos c8] at H
           have c8b0 : decide (x6_1 < (l1.length : Int)) = true := decide_eq_true c8
           clear c8
           by_cases c9 : 0 ≤ x8_2
           ·rw [if_pos c9] at H
            have c9b0 : decide (0 ≤ x8_2) = true := decide_eq_true c9
            clear c9
            by_cases c10 : x8_2 < (l0.length : Int)
            ·rw [if_pos c10] at H
             have c10b0 : decide (x8_2 < (l0.length : Int)) = true := decide_eq_true c10
             clear c10
             replace H := Option.bind_eq_some_iff.mp H
             obtain ⟨t177, A110, H⟩ := H
             replace H : ((galoisref23_Has.f kj3 l1 t177).bind fun t180 => (galoisref27_Core.l1 kj3 l0 l1 x5_1 x6_1 t180 (wrap64 (x8_2 + 1)))) = some r := H
             have A11 := Aside0.mk A110
             clear A110
             replace H := Option.bind_eq_some_iff.mp H
             obtain ⟨t180, A120, H⟩ := H
             replace H : (galoisref27_Core.l1 kj3 l0 l1 x5_1 x6_1 t180 (wrap64 (x8_2 + 1))) = some r := H
             have A12 := Aside0.mk A120
             clear A120
             have H' := Aside0.mk H
             clear H
             try go_wp2
             have n0_ := Aside0.mk (Kd.V_drew HO_1.out)
             have n1_ := Aside0.mk (Kd.N_drew HO_5.out)
             have n2_ := Aside0.mk (below_drew1 HB.out)
             clear HO_1
             clear HO_5
             clear HB
             have HO_1 := n0_
             have HO_5 := n1_
             have HB := n2_
             clear n0_ n1_ n2_
             have p175 : 0 ≤ (x6_1 : Int) := of_decide_eq_true (by assumption)
             have q175 : x6_1 < (l1.length : Int) := of_decide_eq_true (by assumption)
             obtain ⟨ad175, A175_0, c175_0, e175, hx175_0, hl175_0, hi175_0⟩ := at_L1 (Kd.V_reads' HO_1.out).2.2 x6_1 p175 q175
             cases e175
             obtain ⟨ce175, hce175, hMe175, hcc175⟩ := Kd.V_get HO_1.out [] x6_1 p175 (by first | exact q175 | exact of_decide_eq_true (by assumption) | (have e_ := (Kd.V_reads' HO_1.out).1;omega))
             obtain ⟨ua175_0, uc175_0, rfl, ul175_0, ge175_0⟩ := Kd.FK_slice_open hMe175
             have hv175_0 := hcc175 0 _ rfl
             rw [Nat.add_zero, show ((Kd.slice 3 (Kd.int .i64))).sz = 1 from rfl, Nat.mul_one] at hv175_0
             replace hv175_0 := Option.some.inj (hv175_0.symm.trans hx175_0)
             injection hv175_0 with hva_ hvn_ hvc_
             rw [hva_] at ge175_0
             rw [hvc_] at ul175_0
             have HL175_0 := Aside0.mk (show Kd.V (Kd.int .i64) 3 _ w.heap.size _ _ (rd_L1 l1 x6_1) from Kd.V_mk ul175_0 ge175_0)
             clear hva_ hvn_ hvc_ ge175_0 ul175_0
             clear hcc175 hce175
             have HR175_0 := Aside0.mk hi175_0
             have HC175_0 := Aside0.mk hl175_0
             clear hi175_0 hl175_0
             replace p175 := eq_true p175
             replace q175 := eq_true q175
             have p176 : 0 ≤ (x8_2 : Int) := of_decide_eq_true (by assumption)
             have q176 : x8_2 < (l0.length : Int) := of_decide_eq_true (by assumption)
             obtain ⟨ad176, A176_0, c176_0, e176, hx176_0, hl176_0, hi176_0⟩ := at_L1 HR0.out x8_2 p176 q176
             have hw176_0 := hx176_0
             cases e176
             try (replace hx176_0 := (HB.out.cell (World.block_lt_of_cell? w _ hx176_0)).trans hx176_0)
             have HR176_0 := Aside0.mk hi176_0
             have HC176_0 := Aside0.mk hl176_0
             clear hi176_0 hl176_0
             replace p176 := eq_true p176
             replace q176 := eq_true q176
             refine start_ (n := 12) (S := fun w' => w'.cell? (ad175.add (x6_1).toNat) = some (.slice A175_0 (rd_L1 l1 x6_1).length c175_0) ∧ w'.cell? (ad176.add (x8_2).toNat) = some (.slice A176_0 (rd_L1 l0 x8_2).length c176_0)) (ds := []) #[false, false, false, false, false, false, false, false, false, false, false, false] (by kernel_rfl) rfl rfl ⟨hx175_0, ((HB.out.cell (World.block_lt_of_cell? w _ hw176_0)).trans hw176_0)⟩ (fun hHeld => ?_);refine with_tabW galoisref27_Core.tab9 galoisref27_Core.bits9 (fun HT_ HW_ => ?_)
             generalize wc.drew = w13 at HO_1 HO_5 HB HL175_0 HR175_0 HR176_0 hx175_0 hx176_0 hHeld ⊢
             refine pure_ (i := 0) (N := some 24) (v := ?_) (a' := ?_) #[true, false, false, false, false, false, false, false, false, false, false, false] rfl rfl (any_of HT_.out (by kernel_rfl)) (fun _ _ _ h => h) (Or.inl ⟨by rfl, ?_⟩) ?_ ?_
             rotate_left
             ·intro w'
              go_simp
              with_reducible rfl
             rotate_left
             ·simp only [Act.put, List.setIfInBounds_toArray, List.set_cons_zero, List.set_cons_succ, i64_w, i32_w]
              rfl
             refine pure_ (i := 1) (N := some 25) (v := ?_) (a' := ?_) #[true, true, false, false, false, false, false, false, false, false, false, false] rfl rfl (any_of HT_.out (by kernel_rfl)) (fun _ _ _ h => h) (Or.inl ⟨by rfl, ?_⟩) ?_ ?_
             rotate_left
             ·intro w'
              go_simp
              with_reducible rfl
             rotate_left
             ·simp only [Act.put, List.setIfInBounds_toArray, List.set_cons_zero, List.set_cons_succ, i64_w, i32_w]
              rfl
             refine pure_ (i := 2) (N := some 26) (v := ?_) (a' := ?_) #[true, true, true, false, false, false, false, false, false, false, false, false] rfl rfl (any_of HT_.out (by kernel_rfl)) (fun _ _ _ h => h) (Or.inl ⟨by rfl, ?_⟩) ?_ ?_
             rotate_left
             ·intro w'
              go_simp
              with_reducible rfl
             rotate_left
             ·simp only [Act.put, List.setIfInBounds_toArray, List.set_cons_zero, List.set_cons_succ, i64_w, i32_w]
              rfl
             refine pure_ (i := 3) (N := some 27) (v := ?_) (a' := ?_) #[true, true, true, true, false, false, false, false, false, false, false, false] rfl rfl (any_of HT_.out (by kernel_rfl)) (fun _ _ _ h => h) (Or.inl ⟨by rfl, ?_⟩) ?_ ?_
             rotate_left
             ·intro w'
              go_simp
              with_reducible rfl
             rotate_left
             ·simp only [Act.put, List.setIfInBounds_toArray, List.set_cons_zero, List.set_cons_succ, i64_w, i32_w]
              rfl
             refine pure_ (i := 5) (N := some 29) (v := ?_) (a' := ?_) #[true, true, true, true, false, true, false, false, false, false, false, false] rfl rfl (any_of HT_.out (by kernel_rfl)) (fun _ _ _ h => h) (Or.inl ⟨by rfl, ?_⟩) ?_ ?_
             rotate_left
             ·intro w'
              go_simp
              with_reducible rfl
             rotate_left
             ·simp only [Act.put, List.setIfInBounds_toArray, List.set_cons_zero, List.set_cons_succ, i64_w, i32_w]
              rfl
             refine pure_ (i := 6) (N := some 30) (v := ?_) (a' := ?_) #[true, true, true, true, false, true, true, false, false, false, false, false] rfl rfl (any_of HT_.out (by kernel_rfl)) (fun _ _ _ h => h) (Or.inl ⟨by rfl, ?_⟩) ?_ ?_
             rotate_left
             ·intro w'
              go_simp
              with_reducible rfl
             rotate_left
             ·simp only [Act.put, List.setIfInBounds_toArray, List.set_cons_zero, List.set_cons_succ, i64_w, i32_w]
              rfl
             refine pure_ (i := 7) (N := some 31) (v := ?_) (a' := ?_) #[true, true, true, true, false, true, true, true, false, false, false, false] rfl rfl (any_of HT_.out (by kernel_rfl)) (fun _ _ _ h => h) (Or.inl ⟨by rfl, ?_⟩) ?_ ?_
             rotate_left
             ·intro w'
              go_simp
              with_reducible rfl
             rotate_left
             ·simp only [Act.put, List.setIfInBounds_toArray, List.set_cons_zero, List.set_cons_succ, i64_w, i32_w]
              rfl
             refine take_ (i := 4) (N := some 28) (v := ?_) (a' := ?_) #[true, true, true, true, true, true, true, true, false, false, false, false] rfl rfl (take_ofW HT_.out HW_.out (by kernel_rfl)) (fun _ _ _ h => h) (Or.inl ⟨by rfl, ?_⟩) hHeld ?_ ?_
             rotate_left
             ·rintro w' ⟨s0, s1⟩
              go_simp
              with_reducible rfl
             rotate_left
             ·simp only [Act.put, List.setIfInBounds_toArray, List.set_cons_zero, List.set_cons_succ, i64_w, i32_w]
              rfl
             refine take_ (i := 8) (N := some 32) (v := ?_) (a' := ?_) #[true, true, true, true, true, true, true, true, true, false, false, false] rfl rfl (take_ofW HT_.out HW_.out (by kernel_rfl)) (fun _ _ _ h => h) (Or.inl ⟨by rfl, ?_⟩) hHeld ?_ ?_
             rotate_left
             ·rintro w' ⟨s0, s1⟩
              go_simp
              with_reducible rfl
             rotate_left
             ·simp only [Act.put, List.setIfInBounds_toArray, List.set_cons_zero, List.set_cons_succ, i64_w, i32_w]
              rfl
             refine one_ (i := 9) (N := some 33) #[true, true, true, true, true, true, true, true, true, true, false, false] rfl rfl (one_of HT_.out (by kernel_rfl)) (by decide) (fun K hK => ?_)
             refine goes_ Try.func60 (by kernel_rfl) rfl #[.slice A175_0 (rd_L1 l1 x6_1).length c175_0, .slice A176_0 (rd_L1 l0 x8_2).length c176_0] (by rfl) rfl rfl (by (try simp only [List.map_toArray, List.map_cons, List.map_nil]);first | done | rfl | (simp only [List.length_drop, List.length_take];rfl)) ?_
             with_reducible refine (galoisref22_Conjugate.calls kj3 _ _ (rd_L1 l1 x6_1) _ _ (rd_L1 l0 x8_2) t177 _ ?side1 ?side2 ?side3 ?side4 A11.out).mono ?_
             (case side1 => repeat (first|exact (by repeat (first|(with_reducible exact HR175_0.out) | (with_reducible refine Kd.C_alloc ?_ _) | (with_reducible refine Kd.C_drewN ?_ _) | (with_reducible refine Kd.C_drew ?_) | exact HR175_0.out)) | (with_reducible refine Kd.C_alloc ?_ _) | (with_reducible refine Kd.C_drewN ?_ _) | (with_reducible refine Kd.C_drew ?_)))
             (case side2 => exact HC175_0.out)
             (case side3 => exact Cst (Kd.C_below HR176_0.out HB.out))
             (case side4 => exact HC176_0.out)
             rintro e w14 ⟨v178, rfl, ho0, hb⟩
             have HS0_ := (hb.cell (World.block_lt_of_cell? _ _ (hHeld.1))).trans (hHeld.1)
             refine ⟨_, rfl, ?_⟩
             have n0_ := Aside0.mk (Kd.V_elder' (Vst HO_1.out) (Kd.R_base ho0) hb)
             have n1_ := Aside0.mk (Kd.N_elder' (Nst HO_5.out) (Kd.R_base ho0) hb)
             have n2_ := Aside0.mk (Kd.V_elder' (Vst HL175_0.out) (Kd.R_base ho0) hb)
             have n3_ := Aside0.mk (Kd.R_lower (Kd.R_newM (M := fun k_ => (w.heap.size ≤ k_)) ho0 (below_size (bel HB.out)) (fun k_ h_ => h_)) (below_size (bel HB.out)))
             have n4_ := Aside0.mk (Kd.C_below (by repeat (first|(with_reducible exact HR175_0.out) | (with_reducible refine Kd.C_alloc ?_ _) | (with_reducible refine Kd.C_drewN ?_ _) | (with_reducible refine Kd.C_drew ?_) | exact HR175_0.out)) hb)
             have n5_ := Aside0.mk (below_step (bel HB.out) hb)
             clear HO_1
             clear HO_5
             clear HL175_0
             clear HR175_0
             clear HB
             have HO_1 := n0_
             have HO_5 := n1_
             have HL175_0 := n2_
             have HO179 := n3_
             have HR175_0 := n4_
             have HB := n5_
             clear n0_ n1_ n2_ n3_ n4_ n5_
             (try clear hb)
             (try clear hb2)
             (try clear hk)
             (try clear hi)
             (try clear ho0)
             obtain ⟨Ao15, co15, eo15⟩ := Kd.R_slice HO179.out
             (first|subst eo15 | (injection eo15 with f1_ f2_ f3_;have f4_ := f1_.symm;have f5_ := f3_.symm;clear f1_ f2_ f3_;subst f4_;subst f5_))
             refine hK.out _ _ ⟨HS0_, ((HB.out.cell (World.block_lt_of_cell? w _ hw176_0)).trans hw176_0)⟩ (fun hHeld => ?_)
             clear hK K
             refine norm_ (a' := ?_) ?_ ?_
             rotate_left
             ·show Act.put _ (some 33) _ = _
              simp only [Act.put, List.setIfInBounds_toArray, List.set_cons_zero, List.set_cons_succ, i64_w, i32_w]
              rfl
             refine one_ (i := 10) (N := some 34) #[true, true, true, true, true, true, true, true, true, true, true, false] rfl rfl (one_of HT_.out (by kernel_rfl)) (by decide) (fun K hK => ?_)
             refine goes_ Try.func28 (by kernel_rfl) rfl #[.slice (some ad175) l1.length c1, .slice Ao15 t177.length co15] (by rfl) rfl rfl (by (try simp only [List.map_toArray, List.map_cons, List.map_nil]);first | done | rfl | (simp only [List.length_drop, List.length_take];rfl)) ?_
             with_reducible refine (galoisref23_Has.calls kj3 _ _ l1 _ _ t177 t180 _ ?side1 ?side2 ?side3 ?side4 A12.out).mono ?_
             (case side1 => repeat (first|exact (Kd.V_reads' HO_1.out).2.2 | (with_reducible refine Kd.C_alloc ?_ _) | (with_reducible refine Kd.C_drewN ?_ _) | (with_reducible refine Kd.C_drew ?_)))
             (case side2 => exact (Kd.V_reads' HO_1.out).2.1)
             (case side3 => repeat (first|exact (Kd.R_reads' HO179.out).2.2 | (with_reducible refine Kd.C_alloc ?_ _) | (with_reducible refine Kd.C_drewN ?_ _) | (with_reducible refine Kd.C_drew ?_)))
             (case side4 => exact (Kd.R_reads' HO179.out).2.1)
             rintro e w' ⟨rfl, ⟨nd, rfl⟩⟩
             refine ⟨_, rfl, ?_⟩
             refine hK.out _ _ ⟨hHeld.1, ((HB.out.cell (World.block_lt_of_cell? w _ hw176_0)).trans hw176_0)⟩ (fun hHeld => ?_)
             clear hK K
             refine norm_ (a' := ?_) ?_ ?_
             rotate_left
             ·show Act.put _ (some 34) _ = _
              simp only [Act.put, List.setIfInBounds_toArray, List.set_cons_zero, List.set_cons_succ, i64_w, i32_w]
              rfl
             refine pure_ (i := 11) (N := some 7) (v := ?_) (a' := ?_) #[true, true, true, true, true, true, true, true, true, true, true, true] rfl rfl (any_of HT_.out (by kernel_rfl)) (fun _ _ _ h => h) (Or.inl ⟨by rfl, ?_⟩) ?_ ?_
             rotate_left
             ·intro w'
              go_simp
              with_reducible rfl
             rotate_left
             ·simp only [Act.put, List.setIfInBounds_toArray, List.set_cons_zero, List.set_cons_succ, i64_w, i32_w]
              rfl
             refine done_ (done_of HT_.out (by kernel_rfl)) ?_
             try go_wp2
             go_roundg kj3
             case measure => have := HK1.out;have := HK2.out;have := HJ3.out;omega
             case rel => exact ⟨(t180), (wrap64 (x8_2 + 1)), (by first | rfl | (simp;done) | (simp [*];done)), (by first | rfl | (simp;done) | (simp [*];done)), H', ⟨by have := HK1.out;have := HK2.out;have := HJ3.out;omega⟩, ⟨by (with_reducible repeat (first|apply Kd.V_alloc | apply Kd.V_drewN | apply Kd.V_drew));exact Kd.V_mono HO_1.out (fun _ hk => ⟨hk.1.1, hk.1.2⟩)⟩, ⟨by (with_reducible repeat (first|apply Kd.N_alloc | apply Kd.N_drewN | apply Kd.N_drew));exact Kd.N_mono HO_5.out (fun _ hk => hk.1)⟩, ⟨bel HB.out⟩⟩
            ·rw [if_neg c10] at H
             exact absurd H (by simp)
           ·rw [if_neg c9] at H
            exact absurd H (by simp)
          ·rw [if_neg c8] at H
           exact absurd H (by simp)
         ·rw [if_neg c7] at H
          exact absurd H (by simp)
        ·replace c6 := Bool.eq_false_iff.mpr c6
         subst c6
         have H1 : (if x7_2 = true then (if 0 ≤ x6_1 then (if x6_1 < (l1.length : Int) then (if x5_1.length < 5864062014805 then (galoisref27_Core.l0 kj3 l0 l1 (x5_1 ++ [rd_L1 l1 x6_1]) (wrap64 (x6_1 + 1))) else (none)) else (none)) else (none)) else (galoisref27_Core.l0 kj3 l0 l1 x5_1 (wrap64 (x6_1 + 1)))) = some r := by rw [if_neg (show ¬ (false = true) by decide)] at H;exact H
         clear H
         have H := H1
         clear H1
         by_cases c16 : x7_2 = true
         ·subst c16
          have H1 : (if 0 ≤ x6_1 then (if x6_1 < (l1.length : Int) then (if x5_1.length < 5864062014805 then (galoisref27_Core.l0 kj3 l0 l1 (x5_1 ++ [rd_L1 l1 x6_1]) (wrap64 (x6_1 + 1))) else (none)) else (none)) else (none)) = some r := by rw [if_pos rfl] at H;exact H
          clear H
          have H := H1
          clear H1
          by_cases c17 : 0 ≤ x6_1
          ·rw [if_pos c17] at H
           have c17b0 : decide (0 ≤ x6_1) = true := decide_eq_true c17
           clear c17
           by_cases c18 : x6_1 < (l1.length : Int)
           ·rw [if_pos c18] at H
            have c18b0 : decide (x6_1 < (l1.length : Int)) = true := decide_eq_true c18
            clear c18
            by_cases c19 : x5_1.length < 5864062014805
            ·rw [if_pos c19] at H
             have LMc19 := Aside0.mk c19
             clear c19
             obtain ⟨y182, hy182⟩ : ∃ y_ : List (List Int), y_ = (x5_1 ++ [rd_L1 l1 x6_1]) := ⟨_, rfl⟩
             replace H : (galoisref27_Core.l0 kj3 l0 l1 y182 (wrap64 (x6_1 + 1))) = some r := by first | (rw [hy182];with_reducible exact H) | (have H2_ := (Option.bind_some _ _).symm.trans H;rw [hy182];with_reducible exact H2_) | (have H2_ := (Option.bind_some _ _).symm.trans H;with_reducible exact H2_) | with_reducible exact H | (rw [hy182];exact H) | exact H
             have Ny182 := Aside0.mk hy182
             clear hy182
             have H' := Aside0.mk H
             clear H
             have p181 : 0 ≤ (x6_1 : Int) := of_decide_eq_true (by assumption)
             have q181 : x6_1 < (l1.length : Int) := of_decide_eq_true (by assumption)
             obtain ⟨ad181, A181_0, c181_0, e181, hx181_0, hl181_0, hi181_0⟩ := at_L1 (Kd.V_reads' HO_1.out).2.2 x6_1 p181 q181
             cases e181
             obtain ⟨ce181, hce181, hMe181, hcc181⟩ := Kd.V_get HO_1.out [] x6_1 p181 (by first | exact q181 | exact of_decide_eq_true (by assumption) | (have e_ := (Kd.V_reads' HO_1.out).1;omega))
             obtain ⟨ua181_0, uc181_0, rfl, ul181_0, ge181_0⟩ := Kd.FK_slice_open hMe181
             have hv181_0 := hcc181 0 _ rfl
             rw [Nat.add_zero, show ((Kd.slice 3 (Kd.int .i64))).sz = 1 from rfl, Nat.mul_one] at hv181_0
             replace hv181_0 := Option.some.inj (hv181_0.symm.trans hx181_0)
             injection hv181_0 with hva_ hvn_ hvc_
             rw [hva_] at ge181_0
             rw [hvc_] at ul181_0
             have HL181_0 := Aside0.mk (show Kd.V (Kd.int .i64) 3 _ w.heap.size _ _ (rd_L1 l1 x6_1) from Kd.V_mk ul181_0 ge181_0)
             clear hva_ hvn_ hvc_ ge181_0 ul181_0
             clear hcc181 hce181
             have HR181_0 := Aside0.mk hi181_0
             have HC181_0 := Aside0.mk hl181_0
             clear hi181_0 hl181_0
             replace p181 := eq_true p181
             replace q181 := eq_true q181
             go_wp2_with (first|((with_reducible refine gate_builtin (b := .append) (xs := #[.tmp 36, .tmp 41]) rfl ?_);at_builtin;refine Kd.N_append (Kd.slice 3 (Kd.int .i64)) (w0 := w) w.heap.size rfl (.tmp 36) (.tmp 41) 22 43 (.slice none 0 0) 24 rfl Try.underlying22 info43 rfl (by decide) (by omega) u5 x5_1 (rd_L1 l1 x6_1) [.slice A181_0 (rd_L1 l1 x6_1).length c181_0] (fun k_ => (P1_ k_ ∨ w.heap.size ≤ k_)) (fun k_ => ((fun k_ => (P1_ k_ ∨ w.heap.size ≤ k_))) k_ ∧ some k_ ≠ (u5 : Value).ownBlock) rfl rfl ?aP (fun _ hk => hk) ?aF ?aO ?aB ?aS ?aL ?_;(case aP => first | exact (Kd.FK_slice_mk (Kd.V_reads' (Kd.V_mono (ok' := (fun k_ => ((fun k_ => (P1_ k_ ∨ w.heap.size ≤ k_))) k_ ∧ some k_ ≠ (u5 : Value).ownBlock)) (HL181_0.out) (fun k_ hk => ⟨hk.1, hk.2⟩))).2.1 (Kd.V_F (Kd.V_mono (ok' := (fun k_ => ((fun k_ => (P1_ k_ ∨ w.heap.size ≤ k_))) k_ ∧ some k_ ≠ (u5 : Value).ownBlock)) (HL181_0.out) (fun k_ hk => ⟨hk.1, hk.2⟩)))) | (refine Kd.FK_slice_mk (Kd.V_reads' HL181_0.out).2.1 ?_;(with_reducible repeat (first|apply Kd.F_alloc | apply Kd.F_drewN | apply Kd.F_drew));exact (Kd.V_F (Kd.V_mono (ok' := (fun k_ => ((fun k_ => (P1_ k_ ∨ w.heap.size ≤ k_))) k_ ∧ some k_ ≠ (u5 : Value).ownBlock)) (HL181_0.out) (fun k_ hk => ⟨hk.1, hk.2⟩)))));(case aB => exact (bel HB.out));(case aF => exact (fun k_ hk => (.inr (Nat.le_trans (below_size (bel HB.out)) hk))));(case aO => exact (Nst HO_5.out));(case aS => exact (below_size (bel HB.out)));(case aL => have := LMc19.out;omega);intro v183 w20 ho hb hg hat;rw [← Ny182.out] at ho;have n0_ := Aside0.mk (Kd.V_afterv (ok := (fun k_ => (P1_ k_ ∨ w.heap.size ≤ k_))) (Vst HO_1.out) hg hat);have n1_ := Aside0.mk (Kd.V_afterv (ok := (fun k_ => (P1_ k_ ∨ w.heap.size ≤ k_))) (Vst HL181_0.out) hg hat);have n2_ := Aside0.mk (hb);have n3_ := Aside0.mk (ho);clear HO_1;clear HL181_0;clear HB;clear HO_5;have HO_1 := n0_;have HL181_0 := n1_;have HB := n2_;have HO184 := n3_;clear n0_ n1_ n2_ n3_;clear ho hb hg hat))
             go_roundg kj3
             case measure => have := HK1.out;have := HK2.out;have := HJ3.out;omega
             case rel => exact ⟨(y182), (wrap64 (x6_1 + 1)), (by first | rfl | (simp;done) | (simp [*];done)), H', ⟨by have := HK1.out;have := HK2.out;have := HJ3.out;omega⟩, ⟨Vst HO_1.out⟩, ⟨Nst HO184.out⟩, ⟨bel HB.out⟩⟩
            ·rw [if_neg c19] at H
             exact absurd H (by simp)
           ·rw [if_neg c18] at H
            exact absurd H (by simp)
          ·rw [if_neg c17] at H
           exact absurd H (by simp)
         ·replace c16 := Bool.eq_false_iff.mpr c16
          subst c16
          have H1 : (galoisref27_Core.l0 kj3 l0 l1 x5_1 (wrap64 (x6_1 + 1))) = some r := by rw [if_neg (show ¬ (false = true) by decide)] at H;exact H
          clear H
          have H := H1
          clear H1
          have H' := Aside0.mk H
          clear H
          go_wp2
          go_roundg kj3
          case measure => have := HK1.out;have := HK2.out;have := HJ3.out;omega
          case rel => exact ⟨(x5_1), (wrap64 (x6_1 + 1)), (by first | rfl | (simp;done) | (simp [*];done)), H', ⟨by have := HK1.out;have := HK2.out;have := HJ3.out;omega⟩, ⟨Vst HO_1.out⟩, ⟨Nst HO_5.out⟩, ⟨bel HB.out⟩⟩
   ·rw [if_neg c3] at H
    have c3b0 : decide (x6_1 < (l1.length : Int)) = false := decide_eq_false c3
    clear c3
    obtain rfl := Option.some.inj H
    go_wp2
    go_ret
    exact ⟨_, by first | rfl | (simp [errW_none, errW_some] <;> rfl) | (simp [*, errW_none, errW_some] <;> rfl), Nst HO_5.out, bel HB.out⟩
end Go.Proofs.Ytaaaljifclecnaa.PGp
