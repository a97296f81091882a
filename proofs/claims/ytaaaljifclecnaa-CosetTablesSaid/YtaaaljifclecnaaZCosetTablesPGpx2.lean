-- Printed by wip/tools/mk.py of this repo (the kit's print with turns made in memory).
import Derived.Test.YtaaaljifclecnaaZCosetTablesMg0
import Derived.Test.YtaaaljifclecnaaZCosetTablesPGpx0
import Derived.Test.YtaaaljifclecnaaZCosetTablesPGpx1
namespace Go.Proofs.Ytaaaljifclecnaa.PGp
open Go.RowKit Go.Proofs.YtaaaljifclecnaaW.PrintWords Go.Proofs.YtaaaljifclecnaaW.PrintLast Go.Proofs.YtaaaljifclecnaaW.PrintMore
attribute [local go_sem] max2_int min2_int max_two min_two max_three min_three max_four min_four   -- for this text's walks alone
set_option linter.unusedVariables false
set_option linter.unusedSimpArgs false
mutual
def galoisref27_Quotient.l0 : Nat → List (List Int) → List (List Int) → List (List Int) → Int → Option ((List (List Int)))
 | 0, _, _, _, _ => none
 | k + 1, x1, x5, x6, x7 => if x7 < (x5.length : Int) then (galoisref27_Quotient.l1 k x1 x5 x6 x7 ([] : List Int) 0) else (some x6)
def galoisref27_Quotient.l1 : Nat → List (List Int) → List (List Int) → List (List Int) → Int → List Int → Int → Option ((List (List Int)))
 | 0, _, _, _, _, _, _ => none
 | k + 1, x1, x5, x6, x7, x8, x9 => if x9 < (x5.length : Int) then (if 0 ≤ x7 then (if x7 < (x5.length : Int) then (if 0 ≤ x9 then ((galoisref22_Mul.f k (rd_L1 x5 x7) (rd_L1 x5 x9)).bind fun t153 => ((galoisref27_Find.f k x1 x5 t153).bind fun t156 => (if x8.length < 17592186044416 then (galoisref27_Quotient.l1 k x1 x5 x6 x7 (x8 ++ [t156]) (wrap64 (x9 + 1))) else (none)))) else (none)) else (none)) else (none)) else (if x6.length < 5864062014805 then (galoisref27_Quotient.l0 k x1 x5 (x6 ++ [x8]) (wrap64 (x7 + 1))) else (none))
end
def galoisref27_Quotient.f (k : Nat) (l0 : List (List Int)) (l1 : List (List Int)) : Option ((List (List Int))) := (galoisref27_Representatives.f k l0 l1).bind fun t148 => (galoisref27_Quotient.l0 k l1 t148 ([] : List (List Int)) 0)
def galoisref27_Quotient.T10 : Bool × List (List Nat × List Nat) := (true, [([], []), ([], []), ([], []), ([], []), ([], []), ([3, 4], [3, 4]), ([5], [5]), ([], []), ([], []), ([7, 8], [7, 8]), ([9], [9]), ([6, 10], [6, 10]), ([1, 2, 11, 11], [1, 2, 11]), ([12], [12]), ([0, 13, 12], [0, 13]), ([14, 14, 0, 1, 2, 3, 4, 5, 6, 7, 8, 9, 10, 11, 12, 13, 14], [0, 14])])
def galoisref27_Quotient.B10 : List Nat := [0, 0, 0, 0, 0, 24, 56, 0, 0, 384, 896, 2040, 4094, 8190, 16383, 32767]
theorem galoisref27_Quotient.tab10 : rtab .any (opsOf Try.f20 10) = galoisref27_Quotient.T10 := by kernel_rfl
theorem galoisref27_Quotient.bits10 : waitsOk galoisref27_Quotient.T10.2 galoisref27_Quotient.B10 = true := by kernel_rfl
set_option maxHeartbeats 8000000 in
set_option maxRecDepth 100000 in
theorem galoisref27_Quotient.calls (k : Nat) (P0_ : Nat → Prop) (A0 : Option Addr) (c0 : Nat) (l0 : List (List Int)) (A1 : Option Addr) (c1 : Nat) (l1 : List (List Int)) (r : List (List Int)) (w : World) (hs0 : Kd.V (Kd.slice 3 (Kd.int .i64)) 43 w w.heap.size (fun k_ => P0_ k_) (.slice A0 l0.length c0) l0) (hr1 : Kd.C (Kd.slice 3 (Kd.int .i64)) w A1 l1.length l1) (hc1 : l1.length ≤ c1) (h : galoisref27_Quotient.f k l0 l1 = some r) :
  Calls Try.prog 20 #[.slice A0 l0.length c0, .slice A1 l1.length c1] w fun e w' => ∃ v0_ : Value, e = .returned (v0_) ∧ Kd.N (Kd.slice 3 (Kd.int .i64)) 42 w' w.heap.size (fun k_ => (P0_ k_ ∨ w.heap.size ≤ k_)) v0_ r ∧ Below w.heap.size w w' := by
 have HO0 := Aside0.mk (show Kd.V (Kd.slice 3 (Kd.int .i64)) 43 w w.heap.size (fun k_ => (P0_ k_ ∨ w.heap.size ≤ k_)) (.slice A0 l0.length c0) l0 from Kd.V_mono hs0 (fun k_ hk => .inl hk))
 have HR1 := Aside0.mk hr1
 have HC1 := Aside0.mk hc1
 clear hr1 hc1
 have HB := Aside0.mk (Below.refl w.heap.size w)
 have H : ((galoisref27_Representatives.f k l0 l1).bind fun t148 => (galoisref27_Quotient.l0 k l1 t148 ([] : List (List Int)) 0)) = some r := h
 clear h
 replace H := Option.bind_eq_some_iff.mp H
 obtain ⟨t148, A30, H⟩ := H
 replace H : (galoisref27_Quotient.l0 k l1 t148 ([] : List (List Int)) 0) = some r := H
 have A3 := Aside0.mk A30
 clear A30
 have H' := Aside0.mk H
 clear H
 go_enter Try.func20, Try.ntmps20
 go_wp2_with (first|((with_reducible refine gate_callee (f := 26) rfl ?_);refine goesL_ (some 12) rfl rfl Try.func26 (by kernel_rfl) rfl #[.slice A0 l0.length c0, .slice A1 l1.length c1] rfl (by (try simp only [List.map_toArray, List.map_cons, List.map_nil]);first | done | rfl | (simp only [List.length_drop, List.length_take];rfl)) ?_;(with_reducible refine (galoisref27_Representatives.calls k (fun k_ => (P0_ k_ ∨ w.heap.size ≤ k_)) _ _ l0 _ _ l1 t148 _ ?side1 ?side2 ?side3 A3.out).mono ?_);(case side1 => exact HO0.out);(case side2 => exact Cst HR1.out);(case side3 => exact HC1.out);rintro e w4 ⟨v149, rfl, ho0, hb⟩;refine ⟨_, rfl, ?_⟩;have n0_ := Aside0.mk (Kd.V_elder' (Vst HO0.out) (by first | exact Kd.N_base ho0 | exact Kd.S_base ho0 | exact Kd.R_base ho0) hb);have n1_ := Aside0.mk (Kd.N_lower (Kd.N_mono (ok' := fun k_ => (P0_ k_ ∨ w.heap.size ≤ k_)) ho0 (fun k_ hk_ => Or.elim hk_ (fun hs_ => hs_) (fun hn_ => (.inr (Nat.le_trans (below_size (bel HB.out)) hn_))))) (below_size (bel HB.out)));have n2_ := Aside0.mk (below_step (bel HB.out) hb);clear HO0;clear HB;have HO0 := n0_;have HO150 := n1_;have HB := n2_;clear n0_ n1_ n2_;(try clear hb);(try clear hb2);(try clear hk);(try clear hi);(try clear ho0)))
 go_loopg [6, 7] k (fun kq v6 v7 w' => ∃ (x6_1 : List (List Int)) (x7_1 : Int), v7 = .int .i64 x7_1 ∧ Aside0 (galoisref27_Quotient.l0 kq l1 t148 x6_1 x7_1 = some r) ∧ Aside0 (kq ≤ k) ∧ Aside0 (Kd.N (Kd.slice 3 (Kd.int .i64)) 43 w' w.heap.size (fun k_ => (P0_ k_ ∨ w.heap.size ≤ k_) ∧ some k_ ≠ (v6 : Value).ownBlock) v149 t148) ∧ Aside0 (Kd.N (Kd.slice 3 (Kd.int .i64)) 42 w' w.heap.size (fun k_ => (P0_ k_ ∨ w.heap.size ≤ k_) ∧ some k_ ≠ (v149 : Value).ownBlock) v6 x6_1) ∧ Aside0 (Below w.heap.size w w'))
 case atStart => exact ⟨(([] : List (List Int))), (0), (by first | rfl | (simp;done) | (simp [*];done)), H', ⟨Nat.le_refl _⟩, ⟨by (with_reducible repeat (first|apply Kd.N_alloc | apply Kd.N_drewN | apply Kd.N_drew));exact Kd.N_mono HO150.out (fun _ hk => ⟨hk, (by simp [Value.ownBlock])⟩)⟩, ⟨by first | exact Kd.S_nil _ _ _ _ _ | exact Kd.N_nil _ _ _ _ _ | exact Kd.V_nil _ _ _ _ _ | exact Kd.Q_nil _ _ _ _ _ | exact Kd.R_nil _ _ _ _ _⟩, ⟨bel HB.out⟩⟩
 case round =>
  clear H'
  try clear c1
  try clear c2
  try clear p2
  obtain ⟨x6_1, x7_1, rfl, HA, HK1, HO_5, HO_6, HB⟩ := hrel
  cases gk with
  | zero => exact absurd HA.out (by simp [galoisref27_Quotient.l0])
  | succ k1 =>
   have H := HA.out
   clear HA
   simp only [galoisref27_Quotient.l0] at H
   by_cases c5 : x7_1 < (t148.length : Int)
   ·rw [if_pos c5] at H
    have c5b0 : decide (x7_1 < (t148.length : Int)) = true := decide_eq_true c5
    clear c5
    have H' := Aside0.mk H
    clear H
    obtain ⟨Ao6, co6, eo6⟩ := Kd.N_slice HO_5.out
    subst eo6
    go_wp2
    go_loopg [8, 9] k1 (fun kq v8 v9 w' => ∃ (x8_2 : List Int) (x9_2 : Int), v9 = .int .i64 x9_2 ∧ Aside0 (galoisref27_Quotient.l1 kq l1 t148 x6_1 x7_1 x8_2 x9_2 = some r) ∧ Aside0 (kq ≤ k1) ∧ Aside0 (Kd.N (Kd.slice 3 (Kd.int .i64)) 43 w' w.heap.size (fun k_ => (P0_ k_ ∨ w.heap.size ≤ k_) ∧ some k_ ≠ (u6 : Value).ownBlock ∧ some k_ ≠ (v8 : Value).ownBlock) (.slice Ao6 t148.length co6) t148) ∧ Aside0 (Kd.N (Kd.slice 3 (Kd.int .i64)) 42 w' w.heap.size (fun k_ => (P0_ k_ ∨ w.heap.size ≤ k_) ∧ some k_ ≠ ((.slice Ao6 t148.length co6) : Value).ownBlock ∧ some k_ ≠ (v8 : Value).ownBlock) u6 x6_1) ∧ Aside0 (Kd.R (Kd.int .i64) 3 w' w.heap.size (fun k_ => (w.heap.size ≤ k_)) v8 x8_2) ∧ Aside0 (Below w.heap.size w w'))
    case atStart => exact ⟨(([] : List Int)), (0), (by first | rfl | (simp;done) | (simp [*];done)), H', ⟨Nat.le_refl _⟩, ⟨by (with_reducible repeat (first|apply Kd.N_alloc | apply Kd.N_drewN | apply Kd.N_drew));exact Kd.N_mono HO_5.out (fun _ hk => ⟨hk.1, ⟨hk.2, (by simp [Value.ownBlock])⟩⟩)⟩, ⟨by (with_reducible repeat (first|apply Kd.N_alloc | apply Kd.N_drewN | apply Kd.N_drew));exact Kd.N_mono HO_6.out (fun _ hk => ⟨hk.1, ⟨hk.2, (by simp [Value.ownBlock])⟩⟩)⟩, ⟨by first | exact Kd.R_nil _ _ _ _ _ | exact Kd.N_nil _ _ _ _ _ | exact Kd.V_nil _ _ _ _ _ | exact Kd.Q_nil _ _ _ _ _ | exact Kd.S_nil _ _ _ _ _⟩, ⟨bel HB.out⟩⟩
    case round =>
     clear H'
     try clear c1
     try clear c2
     try clear p2
     try clear c5
     try clear c5b0
     try clear p2
     obtain ⟨x8_2, x9_2, rfl, HA, HK2, HO_5, HO_6, HO_8, HB⟩ := hrel
     cases gk with
     | zero => exact absurd HA.out (by simp [galoisref27_Quotient.l1])
     | succ k2 =>
      have H := HA.out
      clear HA
      simp only [galoisref27_Quotient.l1] at H
      by_cases c7 : x9_2 < (t148.length : Int)
      ·rw [if_pos c7] at H
       have c7b0 : decide (x9_2 < (t148.length : Int)) = true := decide_eq_true c7
       clear c7
       by_cases c8 : 0 ≤ x7_1
       ·rw [if_pos c8] at H
        have c8b0 : decide (0 ≤ x7_1) = true := decide_eq_true c8
        clear c8
        by_cases c9 : x7_1 < (t148.length : Int)
        ·rw [if_pos c9] at H
         have c9b0 : decide (x7_1 < (t148.length : Int)) = true := decide_eq_true c9
         clear c9
         by_cases c10 : 0 ≤ x9_2
         ·rw [if_pos c10] at H
          have c10b0 : decide (0 ≤ x9_2) = true := decide_eq_true c10
          clear c10
          replace H := Option.bind_eq_some_iff.mp H
          obtain ⟨t153, A110, H⟩ := H
          replace H : ((galoisref27_Find.f k2 l1 t148 t153).bind fun t156 => (if x8_2.length < 17592186044416 then (galoisref27_Quotient.l1 k2 l1 t148 x6_1 x7_1 (x8_2 ++ [t156]) (wrap64 (x9_2 + 1))) else (none))) = some r := H
          have A11 := Aside0.mk A110
          clear A110
          replace H := Option.bind_eq_some_iff.mp H
          obtain ⟨t156, A120, H⟩ := H
          replace H : (if x8_2.length < 17592186044416 then (galoisref27_Quotient.l1 k2 l1 t148 x6_1 x7_1 (x8_2 ++ [t156]) (wrap64 (x9_2 + 1))) else (none)) = some r := H
          have A12 := Aside0.mk A120
          clear A120
          by_cases c13 : x8_2.length < 17592186044416
          ·rw [if_pos c13] at H
           have LMc13 := Aside0.mk c13
           clear c13
           obtain ⟨y157, hy157⟩ : ∃ y_ : List Int, y_ = (x8_2 ++ [t156]) := ⟨_, rfl⟩
           replace H : (galoisref27_Quotient.l1 k2 l1 t148 x6_1 x7_1 y157 (wrap64 (x9_2 + 1))) = some r := by first | (rw [hy157];with_reducible exact H) | (have H2_ := (Option.bind_some _ _).symm.trans H;rw [hy157];with_reducible exact H2_) | (have H2_ := (Option.bind_some _ _).symm.trans H;with_reducible exact H2_) | with_reducible exact H | (rw [hy157];exact H) | exact H
           have Ny157 := Aside0.mk hy157
           clear hy157
           have H' := Aside0.mk H
           clear H
           try go_wp2
           have n0_ := Aside0.mk (Kd.N_drew HO_5.out)
           have n1_ := Aside0.mk (Kd.N_drew HO_6.out)
           have n2_ := Aside0.mk (Kd.R_drew HO_8.out)
           have n3_ := Aside0.mk (below_drew1 HB.out)
           clear HO_5
           clear HO_6
           clear HO_8
           clear HB
           have HO_5 := n0_
           have HO_6 := n1_
           have HO_8 := n2_
           have HB := n3_
           clear n0_ n1_ n2_ n3_
           have p151 : 0 ≤ (x7_1 : Int) := of_decide_eq_true (by assumption)
           have q151 : x7_1 < (t148.length : Int) := of_decide_eq_true (by assumption)
           obtain ⟨ad151, A151_0, c151_0, e151, hx151_0, hl151_0, hi151_0⟩ := at_L1 (Kd.N_reads' HO_5.out).2.2 x7_1 p151 q151
           cases e151
           obtain ⟨ce151, hce151, hMe151, hcc151⟩ := Kd.N_get HO_5.out [] x7_1 p151 (by first | exact q151 | exact of_decide_eq_true (by assumption) | (have e_ := (Kd.N_reads' HO_5.out).1;omega))
           obtain ⟨ua151_0, uc151_0, rfl, ul151_0, ge151_0⟩ := Kd.FK_slice_open hMe151
           have hv151_0 := hcc151 0 _ rfl
           rw [Nat.add_zero, show ((Kd.slice 3 (Kd.int .i64))).sz = 1 from rfl, Nat.mul_one] at hv151_0
           replace hv151_0 := Option.some.inj (hv151_0.symm.trans hx151_0)
           injection hv151_0 with hva_ hvn_ hvc_
           rw [hva_] at ge151_0
           rw [hvc_] at ul151_0
           have HL151_0 := Aside0.mk (show Kd.V (Kd.int .i64) 3 _ w.heap.size _ _ (rd_L1 t148 x7_1) from Kd.V_mk ul151_0 ge151_0)
           clear hva_ hvn_ hvc_ ge151_0 ul151_0
           clear hcc151 hce151
           have HR151_0 := Aside0.mk hi151_0
           have HC151_0 := Aside0.mk hl151_0
           clear hi151_0 hl151_0
           replace p151 := eq_true p151
           replace q151 := eq_true q151
           have p152 : 0 ≤ (x9_2 : Int) := of_decide_eq_true (by assumption)
           have q152 : x9_2 < (t148.length : Int) := of_decide_eq_true (by assumption)
           obtain ⟨ad152, A152_0, c152_0, e152, hx152_0, hl152_0, hi152_0⟩ := at_L1 (Kd.N_reads' HO_5.out).2.2 x9_2 p152 q152
           obtain rfl : ad151 = ad152 := (by injection e152)
           obtain ⟨ce152, hce152, hMe152, hcc152⟩ := Kd.N_get HO_5.out [] x9_2 p152 (by first | exact q152 | exact of_decide_eq_true (by assumption) | (have e_ := (Kd.N_reads' HO_5.out).1;omega))
           obtain ⟨ua152_0, uc152_0, rfl, ul152_0, ge152_0⟩ := Kd.FK_slice_open hMe152
           have hv152_0 := hcc152 0 _ rfl
           rw [Nat.add_zero, show ((Kd.slice 3 (Kd.int .i64))).sz = 1 from rfl, Nat.mul_one] at hv152_0
           replace hv152_0 := Option.some.inj (hv152_0.symm.trans hx152_0)
           injection hv152_0 with hva_ hvn_ hvc_
           rw [hva_] at ge152_0
           rw [hvc_] at ul152_0
           have HL152_0 := Aside0.mk (show Kd.V (Kd.int .i64) 3 _ w.heap.size _ _ (rd_L1 t148 x9_2) from Kd.V_mk ul152_0 ge152_0)
           clear hva_ hvn_ hvc_ ge152_0 ul152_0
           clear hcc152 hce152
           have HR152_0 := Aside0.mk hi152_0
           have HC152_0 := Aside0.mk hl152_0
           clear hi152_0 hl152_0
           replace p152 := eq_true p152
           replace q152 := eq_true q152
           refine start_ (n := 16) (S := fun w' => w'.cell? (ad151.add (x7_1).toNat) = some (.slice A151_0 (rd_L1 t148 x7_1).length c151_0) ∧ w'.cell? (ad151.add (x9_2).toNat) = some (.slice A152_0 (rd_L1 t148 x9_2).length c152_0)) (ds := [13, 14]) #[false, false, false, false, false, false, false, false, false, false, false, false, false, false, false, false] (by kernel_rfl) rfl rfl ⟨hx151_0, hx152_0⟩ (fun hHeld => ?_);refine with_tabW galoisref27_Quotient.tab10 galoisref27_Quotient.bits10 (fun HT_ HW_ => ?_)
           generalize wr.drew = w14 at HO_5 HO_6 HO_8 HB HL151_0 HL152_0 HR151_0 HR152_0 hx151_0 hx152_0 hHeld ⊢
           refine pure_ (i := 0) (N := some 25) (v := ?_) (a' := ?_) #[true, false, false, false, false, false, false, false, false, false, false, false, false, false, false, false] rfl rfl (any_of HT_.out (by kernel_rfl)) (fun _ _ _ h => h) (Or.inl ⟨by rfl, ?_⟩) ?_ ?_
           rotate_left
           ·intro w'
            go_simp
            with_reducible rfl
           rotate_left
           ·simp only [Act.put, List.setIfInBounds_toArray, List.set_cons_zero, List.set_cons_succ, i64_w, i32_w]
            rfl
           refine pure_ (i := 1) (N := some 26) (v := ?_) (a' := ?_) #[true, true, false, false, false, false, false, false, false, false, false, false, false, false, false, false] rfl rfl (any_of HT_.out (by kernel_rfl)) (fun _ _ _ h => h) (Or.inl ⟨by rfl, ?_⟩) ?_ ?_
           rotate_left
           ·intro w'
            go_simp
            with_reducible rfl
           rotate_left
           ·simp only [Act.put, List.setIfInBounds_toArray, List.set_cons_zero, List.set_cons_succ, i64_w, i32_w]
            rfl
           refine pure_ (i := 2) (N := some 27) (v := ?_) (a' := ?_) #[true, true, true, false, false, false, false, false, false, false, false, false, false, false, false, false] rfl rfl (any_of HT_.out (by kernel_rfl)) (fun _ _ _ h => h) (Or.inl ⟨by rfl, ?_⟩) ?_ ?_
           rotate_left
           ·intro w'
            go_simp
            with_reducible rfl
           rotate_left
           ·simp only [Act.put, List.setIfInBounds_toArray, List.set_cons_zero, List.set_cons_succ, i64_w, i32_w]
            rfl
           refine pure_ (i := 3) (N := some 28) (v := ?_) (a' := ?_) #[true, true, true, true, false, false, false, false, false, false, false, false, false, false, false, false] rfl rfl (any_of HT_.out (by kernel_rfl)) (fun _ _ _ h => h) (Or.inl ⟨by rfl, ?_⟩) ?_ ?_
           rotate_left
           ·intro w'
            go_simp
            with_reducible rfl
           rotate_left
           ·simp only [Act.put, List.setIfInBounds_toArray, List.set_cons_zero, List.set_cons_succ, i64_w, i32_w]
            rfl
           refine pure_ (i := 4) (N := some 29) (v := ?_) (a' := ?_) #[true, true, true, true, true, false, false, false, false, false, false, false, false, false, false, false] rfl rfl (any_of HT_.out (by kernel_rfl)) (fun _ _ _ h => h) (Or.inl ⟨by rfl, ?_⟩) ?_ ?_
           rotate_left
           ·intro w'
            go_simp
            with_reducible rfl
           rotate_left
           ·simp only [Act.put, List.setIfInBounds_toArray, List.set_cons_zero, List.set_cons_succ, i64_w, i32_w]
            rfl
           refine pure_ (i := 5) (N := some 30) (v := ?_) (a' := ?_) #[true, true, true, true, true, true, false, false, false, false, false, false, false, false, false, false] rfl rfl (any_of HT_.out (by kernel_rfl)) (fun _ _ _ h => h) (Or.inl ⟨by rfl, ?_⟩) ?_ ?_
           rotate_left
           ·intro w'
            go_simp
            with_reducible rfl
           rotate_left
           ·simp only [Act.put, List.setIfInBounds_toArray, List.set_cons_zero, List.set_cons_succ, i64_w, i32_w]
            rfl
           refine pure_ (i := 7) (N := some 32) (v := ?_) (a' := ?_) #[true, true, true, true, true, true, false, true, false, false, false, false, false, false, false, false] rfl rfl (any_of HT_.out (by kernel_rfl)) (fun _ _ _ h => h) (Or.inl ⟨by rfl, ?_⟩) ?_ ?_
           rotate_left
           ·intro w'
            go_simp
            with_reducible rfl
           rotate_left
           ·simp only [Act.put, List.setIfInBounds_toArray, List.set_cons_zero, List.set_cons_succ, i64_w, i32_w]
            rfl
           refine pure_ (i := 8) (N := some 33) (v := ?_) (a' := ?_) #[true, true, true, true, true, true, false, true, true, false, false, false, false, false, false, false] rfl rfl (any_of HT_.out (by kernel_rfl)) (fun _ _ _ h => h) (Or.inl ⟨by rfl, ?_⟩) ?_ ?_
           rotate_left
           ·intro w'
            go_simp
            with_reducible rfl
           rotate_left
           ·simp only [Act.put, List.setIfInBounds_toArray, List.set_cons_zero, List.set_cons_succ, i64_w, i32_w]
            rfl
           refine pure_ (i := 9) (N := some 34) (v := ?_) (a' := ?_) #[true, true, true, true, true, true, false, true, true, true, false, false, false, false, false, false] rfl rfl (any_of HT_.out (by kernel_rfl)) (fun _ _ _ h => h) (Or.inl ⟨by rfl, ?_⟩) ?_ ?_
           rotate_left
           ·intro w'
            go_simp
            with_reducible rfl
           rotate_left
           ·simp only [Act.put, List.setIfInBounds_toArray, List.set_cons_zero, List.set_cons_succ, i64_w, i32_w]
            rfl
           refine take_ (i := 6) (N := some 31) (v := ?_) (a' := ?_) #[true, true, true, true, true, true, true, true, true, true, false, false, false, false, false, false] rfl rfl (take_ofW HT_.out HW_.out (by kernel_rfl)) (fun _ _ _ h => h) (Or.inl ⟨by rfl, ?_⟩) hHeld ?_ ?_
           rotate_left
           ·rintro w' ⟨s0, s1⟩
            go_simp
            with_reducible rfl
           rotate_left
           ·simp only [Act.put, List.setIfInBounds_toArray, List.set_cons_zero, List.set_cons_succ, i64_w, i32_w]
            rfl
           refine take_ (i := 10) (N := some 35) (v := ?_) (a' := ?_) #[true, true, true, true, true, true, true, true, true, true, true, false, false, false, false, false] rfl rfl (take_ofW HT_.out HW_.out (by kernel_rfl)) (fun _ _ _ h => h) (Or.inl ⟨by rfl, ?_⟩) hHeld ?_ ?_
           rotate_left
           ·rintro w' ⟨s0, s1⟩
            go_simp
            with_reducible rfl
           rotate_left
           ·simp only [Act.put, List.setIfInBounds_toArray, List.set_cons_zero, List.set_cons_succ, i64_w, i32_w]
            rfl
           refine one_ (i := 11) (N := some 36) #[true, true, true, true, true, true, true, true, true, true, true, true, false, false, false, false] rfl rfl (one_of HT_.out (by kernel_rfl)) (by decide) (fun K hK => ?_)
           refine goes_ Try.func34 (by kernel_rfl) rfl #[.slice A151_0 (rd_L1 t148 x7_1).length c151_0, .slice A152_0 (rd_L1 t148 x9_2).length c152_0] (by rfl) rfl rfl (by (try simp only [List.map_toArray, List.map_cons, List.map_nil]);first | done | rfl | (simp only [List.length_drop, List.length_take];rfl)) ?_
           with_reducible refine (galoisref22_Mul.calls k2 _ _ (rd_L1 t148 x7_1) _ _ (rd_L1 t148 x9_2) t153 _ ?side1 ?side2 ?side3 ?side4 A11.out).mono ?_
           (case side1 => repeat (first|exact (by repeat (first|(with_reducible exact HR151_0.out) | (with_reducible refine Kd.C_alloc ?_ _) | (with_reducible refine Kd.C_drewN ?_ _) | (with_reducible refine Kd.C_drew ?_) | exact HR151_0.out)) | (with_reducible refine Kd.C_alloc ?_ _) | (with_reducible refine Kd.C_drewN ?_ _) | (with_reducible refine Kd.C_drew ?_)))
           (case side2 => exact HC151_0.out)
           (case side3 => repeat (first|exact (by repeat (first|(with_reducible exact HR152_0.out) | (with_reducible refine Kd.C_alloc ?_ _) | (with_reducible refine Kd.C_drewN ?_ _) | (with_reducible refine Kd.C_drew ?_) | exact HR152_0.out)) | (with_reducible refine Kd.C_alloc ?_ _) | (with_reducible refine Kd.C_drewN ?_ _) | (with_reducible refine Kd.C_drew ?_)))
           (case side4 => exact HC152_0.out)
           rintro e w15 ⟨v154, rfl, ho0, hb⟩
           have HS0_ := (hb.cell (World.block_lt_of_cell? _ _ (hHeld.1))).trans (hHeld.1)
           have HS1_ := (hb.cell (World.block_lt_of_cell? _ _ (hHeld.2))).trans (hHeld.2)
           refine ⟨_, rfl, ?_⟩
           have n0_ := Aside0.mk (Kd.N_elder' (Nst HO_5.out) (Kd.R_base ho0) hb)
           have n1_ := Aside0.mk (Kd.N_elder' (Nst HO_6.out) (Kd.R_base ho0) hb)
           have n2_ := Aside0.mk (Kd.R_elder' (Rst HO_8.out) (Kd.R_base ho0) hb)
           have n3_ := Aside0.mk (Kd.V_elder' (Vst HL151_0.out) (Kd.R_base ho0) hb)
           have n4_ := Aside0.mk (Kd.V_elder' (Vst HL152_0.out) (Kd.R_base ho0) hb)
           have n5_ := Aside0.mk (Kd.R_lower (Kd.R_new' (Kd.R_newM (M := fun k_ => (w.heap.size ≤ k_)) ho0 (below_size (bel HB.out)) (fun k_ h_ => h_)) (Kd.R_lt (Rst HO_8.out))) (below_size (bel HB.out)))
           have n6_ := Aside0.mk (Kd.C_below (by repeat (first|(with_reducible exact HR151_0.out) | (with_reducible refine Kd.C_alloc ?_ _) | (with_reducible refine Kd.C_drewN ?_ _) | (with_reducible refine Kd.C_drew ?_) | exact HR151_0.out)) hb)
           have n7_ := Aside0.mk (Kd.C_below (by repeat (first|(with_reducible exact HR152_0.out) | (with_reducible refine Kd.C_alloc ?_ _) | (with_reducible refine Kd.C_drewN ?_ _) | (with_reducible refine Kd.C_drew ?_) | exact HR152_0.out)) hb)
           have n8_ := Aside0.mk (below_step (bel HB.out) hb)
           clear HO_5
           clear HO_6
           clear HO_8
           clear HL151_0
           clear HL152_0
           clear HR151_0
           clear HR152_0
           clear HB
           have HO_5 := n0_
           have HO_6 := n1_
           have HO_8 := n2_
           have HL151_0 := n3_
           have HL152_0 := n4_
           have HO155 := n5_
           have HR151_0 := n6_
           have HR152_0 := n7_
           have HB := n8_
           clear n0_ n1_ n2_ n3_ n4_ n5_ n6_ n7_ n8_
           (try clear hb)
           (try clear hb2)
           (try clear hk)
           (try clear hi)
           (try clear ho0)
           obtain ⟨Ao16, co16, eo16⟩ := Kd.R_slice HO155.out
           (first|subst eo16 | (injection eo16 with f1_ f2_ f3_;have f4_ := f1_.symm;have f5_ := f3_.symm;clear f1_ f2_ f3_;subst f4_;subst f5_))
           refine hK.out _ _ ⟨HS0_, HS1_⟩ (fun hHeld => ?_)
           clear hK K
           refine norm_ (a' := ?_) ?_ ?_
           rotate_left
           ·show Act.put _ (some 36) _ = _
            simp only [Act.put, List.setIfInBounds_toArray, List.set_cons_zero, List.set_cons_succ, i64_w, i32_w]
            rfl
           refine one_ (i := 12) (N := some 37) #[true, true, true, true, true, true, true, true, true, true, true, true, true, false, false, false] rfl rfl (one_of HT_.out (by kernel_rfl)) (by decide) (fun K hK => ?_)
           refine goes_ Try.func29 (by kernel_rfl) rfl #[.slice A1 l1.length c1, .slice (some ad151) t148.length co6, .slice Ao16 t153.length co16] (by rfl) rfl rfl (by (try simp only [List.map_toArray, List.map_cons, List.map_nil]);first | done | rfl | (simp only [List.length_drop, List.length_take];rfl)) ?_
           with_reducible refine (galoisref27_Find.calls k2 _ _ l1 _ _ t148 _ _ t153 t156 _ ?side1 ?side2 ?side3 ?side4 ?side5 ?side6 A12.out).mono ?_
           (case side1 => exact Cst (Kd.C_below HR1.out HB.out))
           (case side2 => exact HC1.out)
           (case side3 => repeat (first|exact (Kd.N_reads' HO_5.out).2.2 | (with_reducible refine Kd.C_alloc ?_ _) | (with_reducible refine Kd.C_drewN ?_ _) | (with_reducible refine Kd.C_drew ?_)))
           (case side4 => exact (Kd.N_reads' HO_5.out).2.1)
           (case side5 => repeat (first|exact (Kd.R_reads' HO155.out).2.2 | (with_reducible refine Kd.C_alloc ?_ _) | (with_reducible refine Kd.C_drewN ?_ _) | (with_reducible refine Kd.C_drew ?_)))
           (case side6 => exact (Kd.R_reads' HO155.out).2.1)
           rintro e w17 ⟨rfl, hb⟩
           have HS0_ := (hb.cell (World.block_lt_of_cell? _ _ (hHeld.1))).trans (hHeld.1)
           have HS1_ := (hb.cell (World.block_lt_of_cell? _ _ (hHeld.2))).trans (hHeld.2)
           refine ⟨_, rfl, ?_⟩
           have n0_ := Aside0.mk (Kd.N_below (Nst HO_5.out) hb)
           have n1_ := Aside0.mk (Kd.N_below (Nst HO_6.out) hb)
           have n2_ := Aside0.mk (Kd.R_below (Rst HO_8.out) hb)
           have n3_ := Aside0.mk (Kd.V_below (Vst HL151_0.out) hb)
           have n4_ := Aside0.mk (Kd.V_below (Vst HL152_0.out) hb)
           have n5_ := Aside0.mk (Kd.R_below (Rst HO155.out) hb)
           have n6_ := Aside0.mk (Kd.C_below (by repeat (first|(with_reducible exact HR151_0.out) | (with_reducible refine Kd.C_alloc ?_ _) | (with_reducible refine Kd.C_drewN ?_ _) | (with_reducible refine Kd.C_drew ?_) | exact HR151_0.out)) hb)
           have n7_ := Aside0.mk (Kd.C_below (by repeat (first|(with_reducible exact HR152_0.out) | (with_reducible refine Kd.C_alloc ?_ _) | (with_reducible refine Kd.C_drewN ?_ _) | (with_reducible refine Kd.C_drew ?_) | exact HR152_0.out)) hb)
           have n8_ := Aside0.mk (below_step (bel HB.out) hb)
           clear HO_5
           clear HO_6
           clear HO_8
           clear HL151_0
           clear HL152_0
           clear HO155
           clear HR151_0
           clear HR152_0
           clear HB
           have HO_5 := n0_
           have HO_6 := n1_
           have HO_8 := n2_
           have HL151_0 := n3_
           have HL152_0 := n4_
           have HO155 := n5_
           have HR151_0 := n6_
           have HR152_0 := n7_
           have HB := n8_
           clear n0_ n1_ n2_ n3_ n4_ n5_ n6_ n7_ n8_
           (try clear hb)
           (try clear hb2)
           (try clear hk)
           (try clear hi)
           refine hK.out _ _ ⟨HS0_, HS1_⟩ (fun hHeld => ?_)
           clear hK K
           refine norm_ (a' := ?_) ?_ ?_
           rotate_left
           ·show Act.put _ (some 37) _ = _
            simp only [Act.put, List.setIfInBounds_toArray, List.set_cons_zero, List.set_cons_succ, i64_w, i32_w]
            rfl
           refine last_ (i := 13) (N := some 38) #[true, true, true, true, true, true, true, true, true, true, true, true, true, true, false, false] rfl rfl (one_of HT_.out (by kernel_rfl)) (by decide) (fun K hK => ?_)
           refine value_ (w1 := ?_) (v := ?_) (by rfl) rfl ?_ ?_
           rotate_left 2
           ·go_simp
            constructor
            ·rfl
            ·rfl
           refine hK.out _ _ ?_
           clear hK K
           refine norm_ (a' := ?_) ?_ ?_
           rotate_left
           ·show Act.put _ (some 38) _ = _
            simp only [Act.put, List.setIfInBounds_toArray, List.set_cons_zero, List.set_cons_succ, i64_w, i32_w]
            rfl
           refine last_ (i := 14) (N := some 39) #[true, true, true, true, true, true, true, true, true, true, true, true, true, true, true, false] rfl rfl (one_of HT_.out (by kernel_rfl)) (by decide) (fun K hK => ?_)
           refine Kd.R_append_step (Kd.int .i64) (w0 := w) w.heap.size (by rfl) (.tmp 25) (.tmp 38) 42 3 (.int .i64 0) 8 rfl Try.underlying42 info3 rfl (by decide) (by omega) u8 x8_2 t156 [.int .i64 t156] (fun k_ => (w.heap.size ≤ k_) ∧ some k_ ≠ (.slice Ao16 t153.length co16 : Value).ownBlock) (fun _ => False) rfl rfl ?aP (fun _ hk => hk.elim) ?aF ?aO ?aB ?aS ?aL ?_
           (case aP => exact rfl)
           (case aB => exact (bel HB.out))
           (case aF => exact (fun k_ hk => ⟨(Nat.le_trans (below_size (bel HB.out)) hk), Kd.fresh' (Kd.R_lt (Rst HO155.out)) k_ hk⟩))
           (case aO => exact (Rst HO_8.out))
           (case aS => exact (below_size (bel HB.out)))
           (case aL => have := LMc13.out;omega)
           intro v158 w18 ho hb hg hat
           rw [← Ny157.out] at ho
           have n0_ := Aside0.mk (Kd.N_afterv (ok := (fun k_ => (P0_ k_ ∨ w.heap.size ≤ k_) ∧ some k_ ≠ (u6 : Value).ownBlock ∧ some k_ ≠ (.slice Ao16 t153.length co16 : Value).ownBlock)) (by (with_reducible repeat (first|apply Kd.N_alloc | apply Kd.N_drewN | apply Kd.N_drew));exact Kd.N_mono HO_5.out (fun _ hk => ⟨⟨hk.1.1, ⟨hk.1.2.1, hk.2⟩⟩, hk.1.2.2⟩)) hg hat)
           have n1_ := Aside0.mk (Kd.N_afterv (ok := (fun k_ => (P0_ k_ ∨ w.heap.size ≤ k_) ∧ some k_ ≠ (.slice (some ad151) t148.length co6 : Value).ownBlock ∧ some k_ ≠ (.slice Ao16 t153.length co16 : Value).ownBlock)) (by (with_reducible repeat (first|apply Kd.N_alloc | apply Kd.N_drewN | apply Kd.N_drew));exact Kd.N_mono HO_6.out (fun _ hk => ⟨⟨hk.1.1, ⟨hk.1.2.1, hk.2⟩⟩, hk.1.2.2⟩)) hg hat)
           have n2_ := Aside0.mk (Kd.V_afterv (ok := (fun k_ => (P0_ k_ ∨ w.heap.size ≤ k_) ∧ some k_ ≠ (.slice (some ad151) t148.length co6 : Value).ownBlock ∧ some k_ ≠ (u6 : Value).ownBlock ∧ some k_ ≠ (.slice Ao16 t153.length co16 : Value).ownBlock)) (by (with_reducible repeat (first|apply Kd.V_alloc | apply Kd.V_drewN | apply Kd.V_drew));exact Kd.V_mono HL151_0.out (fun _ hk => ⟨⟨hk.1.1.1, ⟨hk.1.2, ⟨hk.1.1.2.1, hk.2⟩⟩⟩, hk.1.1.2.2⟩)) hg hat)
           have n3_ := Aside0.mk (Kd.V_afterv (ok := (fun k_ => (P0_ k_ ∨ w.heap.size ≤ k_) ∧ some k_ ≠ (.slice (some ad151) t148.length co6 : Value).ownBlock ∧ some k_ ≠ (u6 : Value).ownBlock ∧ some k_ ≠ (.slice Ao16 t153.length co16 : Value).ownBlock)) (by (with_reducible repeat (first|apply Kd.V_alloc | apply Kd.V_drewN | apply Kd.V_drew));exact Kd.V_mono HL152_0.out (fun _ hk => ⟨⟨hk.1.1.1, ⟨hk.1.2, ⟨hk.1.1.2.1, hk.2⟩⟩⟩, hk.1.1.2.2⟩)) hg hat)
           have n4_ := Aside0.mk (Kd.R_after (ok := (fun k_ => (w.heap.size ≤ k_))) (by (with_reducible repeat (first|apply Kd.R_alloc | apply Kd.R_drewN | apply Kd.R_drew));exact Kd.R_mono HO155.out (fun _ hk => ⟨hk.1.1, hk.2⟩)) hg hat)
           have n5_ := Aside0.mk (hb)
           have n6_ := Aside0.mk (ho)
           clear HO_5
           clear HO_6
           clear HL151_0
           clear HL152_0
           clear HO155
           clear HB
           clear HO_8
           have HO_5 := n0_
           have HO_6 := n1_
           have HL151_0 := n2_
           have HL152_0 := n3_
           have HO155 := n4_
           have HB := n5_
           have HO159 := n6_
           clear n0_ n1_ n2_ n3_ n4_ n5_ n6_
           clear ho hb hg hat
           refine hK.out _ _ ?_
           clear hK K
           refine norm_ (a' := ?_) ?_ ?_
           rotate_left
           ·show Act.put _ (some 39) _ = _
            simp only [Act.put, List.setIfInBounds_toArray, List.set_cons_zero, List.set_cons_succ, i64_w, i32_w]
            rfl
           refine pure_ (i := 15) (N := some 8) (v := ?_) (a' := ?_) #[true, true, true, true, true, true, true, true, true, true, true, true, true, true, true, true] rfl rfl (any_of HT_.out (by kernel_rfl)) (fun _ _ _ h => h) (Or.inl ⟨by rfl, ?_⟩) ?_ ?_
           rotate_left
           ·intro w'
            go_simp
            with_reducible rfl
           rotate_left
           ·simp only [Act.put, List.setIfInBounds_toArray, List.set_cons_zero, List.set_cons_succ, i64_w, i32_w]
            rfl
           refine done_ (done_of HT_.out (by kernel_rfl)) ?_
           try go_wp2
           go_roundg k2
           case measure => have := HK1.out;have := HK2.out;omega
           case rel => exact ⟨(y157), (wrap64 (x9_2 + 1)), (by first | rfl | (simp;done) | (simp [*];done)), H', ⟨by have := HK1.out;have := HK2.out;omega⟩, ⟨by (with_reducible repeat (first|apply Kd.N_alloc | apply Kd.N_drewN | apply Kd.N_drew));exact Kd.N_mono HO_5.out (fun _ hk => ⟨hk.1.1, ⟨hk.1.2.1, hk.2⟩⟩)⟩, ⟨by (with_reducible repeat (first|apply Kd.N_alloc | apply Kd.N_drewN | apply Kd.N_drew));exact Kd.N_mono HO_6.out (fun _ hk => ⟨hk.1.1, ⟨hk.1.2.1, hk.2⟩⟩)⟩, ⟨by (with_reducible repeat (first|apply Kd.R_alloc | apply Kd.R_drewN | apply Kd.R_drew));exact Kd.R_mono HO159.out (fun _ hk => hk.1)⟩, ⟨bel HB.out⟩⟩
          ·rw [if_neg c13] at H
           exact absurd H (by simp)
         ·rw [if_neg c10] at H
          exact absurd H (by simp)
        ·rw [if_neg c9] at H
         exact absurd H (by simp)
       ·rw [if_neg c8] at H
        exact absurd H (by simp)
      ·rw [if_neg c7] at H
       have c7b0 : decide (x9_2 < (t148.length : Int)) = false := decide_eq_false c7
       clear c7
       by_cases c19 : x6_1.length < 5864062014805
       ·rw [if_pos c19] at H
        have LMc19 := Aside0.mk c19
        clear c19
        obtain ⟨y160, hy160⟩ : ∃ y_ : List (List Int), y_ = (x6_1 ++ [x8_2]) := ⟨_, rfl⟩
        replace H : (galoisref27_Quotient.l0 k2 l1 t148 y160 (wrap64 (x7_1 + 1))) = some r := by first | (rw [hy160];with_reducible exact H) | (have H2_ := (Option.bind_some _ _).symm.trans H;rw [hy160];with_reducible exact H2_) | (have H2_ := (Option.bind_some _ _).symm.trans H;with_reducible exact H2_) | with_reducible exact H | (rw [hy160];exact H) | exact H
        have Ny160 := Aside0.mk hy160
        clear hy160
        have H' := Aside0.mk H
        clear H
        obtain ⟨Ao21, co21, eo21⟩ := Kd.R_slice HO_8.out
        subst eo21
        go_wp2_with (first|((with_reducible refine gate_builtin (b := .append) (xs := #[.tmp 40, .tmp 42]) rfl ?_);at_builtin;refine Kd.N_append (Kd.slice 3 (Kd.int .i64)) (w0 := w) w.heap.size rfl (.tmp 40) (.tmp 42) 27 42 (.slice none 0 0) 24 rfl Try.underlying27 info42 rfl (by decide) (by omega) u6 x6_1 x8_2 [.slice Ao21 x8_2.length co21] (fun k_ => (P0_ k_ ∨ w.heap.size ≤ k_) ∧ some k_ ≠ (.slice Ao6 t148.length co6 : Value).ownBlock) (fun k_ => ((fun k_ => (P0_ k_ ∨ w.heap.size ≤ k_) ∧ some k_ ≠ (.slice Ao6 t148.length co6 : Value).ownBlock)) k_ ∧ some k_ ≠ (u6 : Value).ownBlock) rfl rfl ?aP (fun _ hk => hk) ?aF ?aO ?aB ?aS ?aL ?_;(case aP => exact (Kd.FK_slice_mk (Kd.R_reads' (Kd.R_mono (ok' := (fun k_ => ((fun k_ => (P0_ k_ ∨ w.heap.size ≤ k_) ∧ some k_ ≠ (.slice Ao6 t148.length co6 : Value).ownBlock)) k_ ∧ some k_ ≠ (u6 : Value).ownBlock)) (Kd.R_apart' (Kd.R_apart' (HO_8.out) (Kd.N_typed HO_5.out) (by decide)) (Kd.N_typed HO_6.out) (by decide)) (fun k_ hk => ⟨⟨(.inr (hk.1.1)), hk.1.2⟩, hk.2⟩))).2.1 (Kd.R_F (Kd.R_mono (ok' := (fun k_ => ((fun k_ => (P0_ k_ ∨ w.heap.size ≤ k_) ∧ some k_ ≠ (.slice Ao6 t148.length co6 : Value).ownBlock)) k_ ∧ some k_ ≠ (u6 : Value).ownBlock)) (Kd.R_apart' (Kd.R_apart' (HO_8.out) (Kd.N_typed HO_5.out) (by decide)) (Kd.N_typed HO_6.out) (by decide)) (fun k_ hk => ⟨⟨(.inr (hk.1.1)), hk.1.2⟩, hk.2⟩)))));(case aB => exact (bel HB.out));(case aF => exact (fun k_ hk => ⟨(.inr (Nat.le_trans (below_size (bel HB.out)) hk)), Kd.fresh' (Kd.N_lt (Nst HO_5.out)) k_ hk⟩));(case aO => exact (by (with_reducible repeat (first|apply Kd.N_alloc | apply Kd.N_drewN | apply Kd.N_drew));exact Kd.N_mono HO_6.out (fun _ hk => ⟨hk.1, hk.2.1⟩)));(case aS => exact (below_size (bel HB.out)));(case aL => have := LMc19.out;omega);intro v161 w20 ho hb hg hat;rw [← Ny160.out] at ho;have n0_ := Aside0.mk (Kd.N_afterv (ok := (fun k_ => (P0_ k_ ∨ w.heap.size ≤ k_) ∧ some k_ ≠ (.slice Ao21 x8_2.length co21 : Value).ownBlock)) (by (with_reducible repeat (first|apply Kd.N_alloc | apply Kd.N_drewN | apply Kd.N_drew));exact Kd.N_mono HO_5.out (fun _ hk => ⟨⟨hk.1, hk.2.2⟩, hk.2.1⟩)) hg hat);have n1_ := Aside0.mk (hb);have n2_ := Aside0.mk (ho);clear HO_5;clear HB;clear HO_6;clear HO_8;have HO_5 := n0_;have HB := n1_;have HO162 := n2_;clear n0_ n1_ n2_;clear ho hb hg hat))
        go_roundg k2
        case measure => have := HK1.out;have := HK2.out;omega
        case rel => exact ⟨(y160), (wrap64 (x7_1 + 1)), (by first | rfl | (simp;done) | (simp [*];done)), H', ⟨by have := HK1.out;have := HK2.out;omega⟩, ⟨by (with_reducible repeat (first|apply Kd.N_alloc | apply Kd.N_drewN | apply Kd.N_drew));exact Kd.N_mono HO_5.out (fun _ hk => ⟨hk.1.1, hk.2⟩)⟩, ⟨Nst HO162.out⟩, ⟨bel HB.out⟩⟩
       ·rw [if_neg c19] at H
        exact absurd H (by simp)
   ·rw [if_neg c5] at H
    have c5b0 : decide (x7_1 < (t148.length : Int)) = false := decide_eq_false c5
    clear c5
    obtain rfl := Option.some.inj H
    obtain ⟨Ao22, co22, eo22⟩ := Kd.N_slice HO_5.out
    subst eo22
    go_wp2
    go_ret
    exact ⟨_, by first | rfl | (simp [errW_none, errW_some] <;> rfl) | (simp [*, errW_none, errW_some] <;> rfl), by (with_reducible repeat (first|apply Kd.N_alloc | apply Kd.N_drewN | apply Kd.N_drew));exact Kd.N_mono HO_6.out (fun _ hk => hk.1), bel HB.out⟩
end Go.Proofs.Ytaaaljifclecnaa.PGp
