-- Printed.
import Derived.Test.YtmbldnoepjmhhaaGreatZPermgroupPairsMg0
import Derived.Test.YtmbldnoepjmhhaaGreatZPermgroupPairsPRfx0
import Derived.Test.YtmbldnoepjmhhaaGreatZPermgroupPairsPRfx2
import Derived.Test.YtmbldnoepjmhhaaGreatZPermgroupPairsPRfx3
namespace Go.Proofs.YtmbldnoepjmhhaaGreat.PRf
open Go.RowKit Go.Proofs.YtmbldnoepjmhhaaGreatW.PrintWords Go.Proofs.YtmbldnoepjmhhaaGreatW.PrintLast Go.Proofs.YtmbldnoepjmhhaaGreatW.PrintMore Go.Proofs.YtmbldnoepjmhhaaGreat.PAll
attribute [local go_sem] max2_int min2_int max_two min_two max_three min_three max_four min_four
set_option linter.unusedVariables false
set_option linter.unusedSimpArgs false
def galoisref23_Common.l0 : Nat → List (List Int) → List (List Int) → List (List Int) → Int → Option ((List (List Int)))
 | 0, _, _, _, _ => none
 | k + 1, x0, x1, x5, x6 => if x6 < (x0.length : Int) then (if 0 ≤ x6 then ((galoisref23_Has.f k x1 (rd_L1 x0 x6)).bind fun t179 => (if t179 = true then (if x5.length < 5864062014805 then (galoisref23_Common.l0 k x0 x1 (x5 ++ [rd_L1 x0 x6]) (wrap64 (x6 + 1))) else (none)) else (galoisref23_Common.l0 k x0 x1 x5 (wrap64 (x6 + 1))))) else (none)) else (some x5)
def galoisref23_Common.f (k : Nat) (l0 : List (List Int)) (l1 : List (List Int)) : Option ((List (List Int))) := galoisref23_Common.l0 k l0 l1 ([] : List (List Int)) 0
set_option maxHeartbeats 8000000 in
set_option maxRecDepth 100000 in
theorem galoisref23_Common.calls (k : Nat) (P0_ : Nat → Prop) (A0 : Option Addr) (c0 : Nat) (l0 : List (List Int)) (A1 : Option Addr) (c1 : Nat) (l1 : List (List Int)) (r : List (List Int)) (w : World) (hs0 : Kd.V (Kd.slice 3 (Kd.int .i64)) 39 w w.heap.size (fun k_ => P0_ k_) (.slice A0 l0.length c0) l0) (hr1 : Kd.C (Kd.slice 3 (Kd.int .i64)) w A1 l1.length l1) (hc1 : l1.length ≤ c1) (h : galoisref23_Common.f k l0 l1 = some r) :
  Calls Tryz.prog 34 #[.slice A0 l0.length c0, .slice A1 l1.length c1] w fun e w' => ∃ v0_ : Value, e = .returned (v0_) ∧ Kd.N (Kd.slice 3 (Kd.int .i64)) 39 w' w.heap.size (fun k_ => (P0_ k_ ∨ w.heap.size ≤ k_)) v0_ r ∧ Below w.heap.size w w' := by
 have HO0 := Aside0.mk (show Kd.V (Kd.slice 3 (Kd.int .i64)) 39 w w.heap.size (fun k_ => (P0_ k_ ∨ w.heap.size ≤ k_)) (.slice A0 l0.length c0) l0 from Kd.V_mono hs0 (fun k_ hk => .inl hk))
 have HR1 := Aside0.mk hr1
 have HC1 := Aside0.mk hc1
 clear hr1 hc1
 have HB := Aside0.mk (Below.refl w.heap.size w)
 have H : (galoisref23_Common.l0 k l0 l1 ([] : List (List Int)) 0) = some r := h
 clear h
 have H' := Aside0.mk H
 clear H
 go_enter Tryz.func34, Tryz.ntmps34
 go_wp2
 go_loopg [5, 6] k (fun kq v5 v6 w' => ∃ (x5_1 : List (List Int)) (x6_1 : Int), v6 = .int .i64 x6_1 ∧ Aside0 (galoisref23_Common.l0 kq l0 l1 x5_1 x6_1 = some r) ∧ Aside0 (kq ≤ k) ∧ Aside0 (Kd.V (Kd.slice 3 (Kd.int .i64)) 39 w' w.heap.size (fun k_ => (P0_ k_ ∨ w.heap.size ≤ k_) ∧ some k_ ≠ (v5 : Value).ownBlock) (.slice A0 l0.length c0) l0) ∧ Aside0 (Kd.N (Kd.slice 3 (Kd.int .i64)) 39 w' w.heap.size (fun k_ => (P0_ k_ ∨ w.heap.size ≤ k_)) v5 x5_1) ∧ Aside0 (Below w.heap.size w w'))
 case atStart => exact ⟨(([] : List (List Int))), (0), (by first | rfl | (simp;done) | (simp [*];done)), H', ⟨Nat.le_refl _⟩, ⟨by (with_reducible repeat (first|apply Kd.V_alloc | apply Kd.V_drewN | apply Kd.V_drew));exact Kd.V_mono HO0.out (fun _ hk => ⟨hk, (by simp [Value.ownBlock])⟩)⟩, ⟨by first | exact Kd.S_nil _ _ _ _ _ | exact Kd.N_nil _ _ _ _ _ | exact Kd.V_nil _ _ _ _ _ | exact Kd.Q_nil _ _ _ _ _ | exact Kd.R_nil _ _ _ _ _⟩, ⟨bel HB.out⟩⟩
 case round =>
  clear H'
  try clear c1
  try clear p2
  obtain ⟨x5_1, x6_1, rfl, HA, HK1, HO_0, HO_5, HB⟩ := hrel
  cases gk with
  | zero => exact absurd HA.out (by simp [galoisref23_Common.l0])
  | succ k1 =>
   have H := HA.out
   clear HA
   simp only [galoisref23_Common.l0] at H
   by_cases c3 : x6_1 < (l0.length : Int)
   ·rw [if_pos c3] at H
    have c3b0 : decide (x6_1 < (l0.length : Int)) = true := decide_eq_true c3
    clear c3
    by_cases c4 : 0 ≤ x6_1
    ·rw [if_pos c4] at H
     have c4b0 : decide (0 ≤ x6_1) = true := decide_eq_true c4
     clear c4
     replace H := Option.bind_eq_some_iff.mp H
     obtain ⟨t179, A50, H⟩ := H
     replace H : (if t179 = true then (if x5_1.length < 5864062014805 then (galoisref23_Common.l0 k1 l0 l1 (x5_1 ++ [rd_L1 l0 x6_1]) (wrap64 (x6_1 + 1))) else (none)) else (galoisref23_Common.l0 k1 l0 l1 x5_1 (wrap64 (x6_1 + 1)))) = some r := H
     have A5 := Aside0.mk A50
     clear A50
     by_cases c6 : t179 = true
     ·subst c6
      have H1 : (if x5_1.length < 5864062014805 then (galoisref23_Common.l0 k1 l0 l1 (x5_1 ++ [rd_L1 l0 x6_1]) (wrap64 (x6_1 + 1))) else (none)) = some r := by rw [if_pos rfl] at H;exact H
      clear H
      have H := H1
      clear H1
      by_cases c7 : x5_1.length < 5864062014805
      ·rw [if_pos c7] at H
       have LMc7 := Aside0.mk c7
       clear c7
       obtain ⟨y181, hy181⟩ : ∃ y_ : List (List Int), y_ = (x5_1 ++ [rd_L1 l0 x6_1]) := ⟨_, rfl⟩
       replace H : (galoisref23_Common.l0 k1 l0 l1 y181 (wrap64 (x6_1 + 1))) = some r := by first | (rw [hy181];with_reducible exact H) | (have H2_ := (Option.bind_some _ _).symm.trans H;rw [hy181];with_reducible exact H2_) | (have H2_ := (Option.bind_some _ _).symm.trans H;with_reducible exact H2_) | with_reducible exact H | (rw [hy181];exact H) | exact H
       have Ny181 := Aside0.mk hy181
       clear hy181
       have H' := Aside0.mk H
       clear H
       have p178 : 0 ≤ (x6_1 : Int) := of_decide_eq_true (by assumption)
       have q178 : x6_1 < (l0.length : Int) := of_decide_eq_true (by assumption)
       obtain ⟨ad178, A178_0, c178_0, e178, hx178_0, hl178_0, hi178_0⟩ := at_L1 (Kd.V_reads' HO_0.out).2.2 x6_1 p178 q178
       cases e178
       obtain ⟨ce178, hce178, hMe178, hcc178⟩ := Kd.V_get HO_0.out [] x6_1 p178 (by first | exact q178 | exact of_decide_eq_true (by assumption) | (have e_ := (Kd.V_reads' HO_0.out).1;omega))
       obtain ⟨ua178_0, uc178_0, rfl, ul178_0, ge178_0⟩ := Kd.FK_slice_open hMe178
       have hv178_0 := hcc178 0 _ rfl
       rw [Nat.add_zero, show ((Kd.slice 3 (Kd.int .i64))).sz = 1 from rfl, Nat.mul_one] at hv178_0
       replace hv178_0 := Option.some.inj (hv178_0.symm.trans hx178_0)
       injection hv178_0 with hva_ hvn_ hvc_
       rw [hva_] at ge178_0
       rw [hvc_] at ul178_0
       have HL178_0 := Aside0.mk (show Kd.V (Kd.int .i64) 3 _ w.heap.size _ _ (rd_L1 l0 x6_1) from Kd.V_mk ul178_0 ge178_0)
       clear hva_ hvn_ hvc_ ge178_0 ul178_0
       clear hcc178 hce178
       have HR178_0 := Aside0.mk hi178_0
       have HC178_0 := Aside0.mk hl178_0
       clear hi178_0 hl178_0
       replace p178 := eq_true p178
       replace q178 := eq_true q178
       go_wp2_with (first|((with_reducible refine gate_callee (f := 55) rfl ?_);refine goesL_ (some 18) rfl rfl Tryz.func55 (by kernel_rfl) rfl #[.slice A1 l1.length c1, .slice A178_0 (rd_L1 l0 x6_1).length c178_0] rfl (by (try simp only [List.map_toArray, List.map_cons, List.map_nil]);first | done | rfl | (simp only [List.length_drop, List.length_take];rfl)) ?_;(with_reducible refine (galoisref23_Has.calls k1 _ _ l1 _ _ (rd_L1 l0 x6_1) true _ ?side1 ?side2 ?side3 ?side4 A5.out).mono ?_);(case side1 => exact Cst (Kd.C_below HR1.out HB.out));(case side2 => exact HC1.out);(case side3 => repeat (first|exact (by repeat (first|(with_reducible exact HR178_0.out) | (with_reducible refine Kd.C_alloc ?_ _) | (with_reducible refine Kd.C_drewN ?_ _) | (with_reducible refine Kd.C_drew ?_) | exact HR178_0.out)) | (with_reducible refine Kd.C_alloc ?_ _) | (with_reducible refine Kd.C_drewN ?_ _) | (with_reducible refine Kd.C_drew ?_)));(case side4 => exact HC178_0.out);rintro e w' ⟨rfl, ⟨nd, rfl⟩⟩;refine ⟨_, rfl, ?_⟩;have p180 : 0 ≤ (x6_1 : Int) := of_decide_eq_true (by assumption);have q180 : x6_1 < (l0.length : Int) := of_decide_eq_true (by assumption);obtain ⟨ad180, A180_0, c180_0, e180, hx180_0, hl180_0, hi180_0⟩ := at_L1 (Kd.V_reads' HO_0.out).2.2 x6_1 p180 q180;obtain rfl : ad178 = ad180 := (by injection e180);obtain ⟨ce180, hce180, hMe180, hcc180⟩ := Kd.V_get HO_0.out [] x6_1 p180 (by first | exact q180 | exact of_decide_eq_true (by assumption) | (have e_ := (Kd.V_reads' HO_0.out).1;omega));obtain ⟨ua180_0, uc180_0, rfl, ul180_0, ge180_0⟩ := Kd.FK_slice_open hMe180;have hv180_0 := hcc180 0 _ rfl;rw [Nat.add_zero, show ((Kd.slice 3 (Kd.int .i64))).sz = 1 from rfl, Nat.mul_one] at hv180_0;replace hv180_0 := Option.some.inj (hv180_0.symm.trans hx180_0);injection hv180_0 with hva_ hvn_ hvc_;rw [hva_] at ge180_0;rw [hvc_] at ul180_0;have HL180_0 := Aside0.mk (show Kd.V (Kd.int .i64) 3 _ w.heap.size _ _ (rd_L1 l0 x6_1) from Kd.V_mk ul180_0 ge180_0);clear hva_ hvn_ hvc_ ge180_0 ul180_0;clear hcc180 hce180;have HR180_0 := Aside0.mk hi180_0;have HC180_0 := Aside0.mk hl180_0;clear hi180_0 hl180_0;replace p180 := eq_true p180;replace q180 := eq_true q180;have ea_ := Option.some.inj (hx178_0.symm.trans hx180_0);injection ea_ with ea_ en_ ec_;subst ea_;subst ec_;clear en_) | ((with_reducible refine gate_builtin (b := .append) (xs := #[.tmp 19, .tmp 24]) rfl ?_);at_builtin;refine Kd.N_append (Kd.slice 3 (Kd.int .i64)) (w0 := w) w.heap.size rfl (.tmp 19) (.tmp 24) 22 39 (.slice none 0 0) 24 rfl Tryz.underlying22 info39 rfl (by decide) (by omega) u5 x5_1 (rd_L1 l0 x6_1) [.slice A178_0 (rd_L1 l0 x6_1).length c178_0] (fun k_ => (P0_ k_ ∨ w.heap.size ≤ k_)) (fun k_ => ((fun k_ => (P0_ k_ ∨ w.heap.size ≤ k_))) k_ ∧ some k_ ≠ (u5 : Value).ownBlock) rfl rfl ?aP (fun _ hk => hk) ?aF ?aO ?aB ?aS ?aL ?_;(case aP => first | exact (Kd.FK_slice_mk (Kd.V_reads' (Kd.V_mono (ok' := (fun k_ => ((fun k_ => (P0_ k_ ∨ w.heap.size ≤ k_))) k_ ∧ some k_ ≠ (u5 : Value).ownBlock)) (HL180_0.out) (fun k_ hk => ⟨hk.1, hk.2⟩))).2.1 (Kd.V_F (Kd.V_mono (ok' := (fun k_ => ((fun k_ => (P0_ k_ ∨ w.heap.size ≤ k_))) k_ ∧ some k_ ≠ (u5 : Value).ownBlock)) (HL180_0.out) (fun k_ hk => ⟨hk.1, hk.2⟩)))) | (refine Kd.FK_slice_mk (Kd.V_reads' HL180_0.out).2.1 ?_;(with_reducible repeat (first|apply Kd.F_alloc | apply Kd.F_drewN | apply Kd.F_drew));exact (Kd.V_F (Kd.V_mono (ok' := (fun k_ => ((fun k_ => (P0_ k_ ∨ w.heap.size ≤ k_))) k_ ∧ some k_ ≠ (u5 : Value).ownBlock)) (HL180_0.out) (fun k_ hk => ⟨hk.1, hk.2⟩)))));(case aB => exact (bel HB.out));(case aF => exact (fun k_ hk => (.inr (Nat.le_trans (below_size (bel HB.out)) hk))));(case aO => exact (Nst HO_5.out));(case aS => exact (below_size (bel HB.out)));(case aL => have := LMc7.out;omega);intro v182 w8 ho hb hg hat;rw [← Ny181.out] at ho;have n0_ := Aside0.mk (Kd.V_afterv (ok := (fun k_ => (P0_ k_ ∨ w.heap.size ≤ k_))) (Vst HO_0.out) hg hat);have n1_ := Aside0.mk (Kd.V_afterv (ok := (fun k_ => (P0_ k_ ∨ w.heap.size ≤ k_))) (Vst HL178_0.out) hg hat);have n2_ := Aside0.mk (Kd.V_afterv (ok := (fun k_ => (P0_ k_ ∨ w.heap.size ≤ k_))) (Vst HL180_0.out) hg hat);have n3_ := Aside0.mk (hb);have n4_ := Aside0.mk (ho);clear HO_0;clear HL178_0;clear HL180_0;clear HB;clear HO_5;have HO_0 := n0_;have HL178_0 := n1_;have HL180_0 := n2_;have HB := n3_;have HO183 := n4_;clear n0_ n1_ n2_ n3_ n4_;clear ho hb hg hat))
       go_roundg k1
       case measure => have := HK1.out;omega
       case rel => exact ⟨(y181), (wrap64 (x6_1 + 1)), (by first | rfl | (simp;done) | (simp [*];done)), H', ⟨by have := HK1.out;omega⟩, ⟨Vst HO_0.out⟩, ⟨Nst HO183.out⟩, ⟨bel HB.out⟩⟩
      ·rw [if_neg c7] at H
       exact absurd H (by simp)
     ·replace c6 := Bool.eq_false_iff.mpr c6
      subst c6
      have H1 : (galoisref23_Common.l0 k1 l0 l1 x5_1 (wrap64 (x6_1 + 1))) = some r := by rw [if_neg (show ¬ (false = true) by decide)] at H;exact H
      clear H
      have H := H1
      clear H1
      have H' := Aside0.mk H
      clear H
      have p178 : 0 ≤ (x6_1 : Int) := of_decide_eq_true (by assumption)
      have q178 : x6_1 < (l0.length : Int) := of_decide_eq_true (by assumption)
      obtain ⟨ad178, A178_0, c178_0, e178, hx178_0, hl178_0, hi178_0⟩ := at_L1 (Kd.V_reads' HO_0.out).2.2 x6_1 p178 q178
      cases e178
      obtain ⟨ce178, hce178, hMe178, hcc178⟩ := Kd.V_get HO_0.out [] x6_1 p178 (by first | exact q178 | exact of_decide_eq_true (by assumption) | (have e_ := (Kd.V_reads' HO_0.out).1;omega))
      obtain ⟨ua178_0, uc178_0, rfl, ul178_0, ge178_0⟩ := Kd.FK_slice_open hMe178
      have hv178_0 := hcc178 0 _ rfl
      rw [Nat.add_zero, show ((Kd.slice 3 (Kd.int .i64))).sz = 1 from rfl, Nat.mul_one] at hv178_0
      replace hv178_0 := Option.some.inj (hv178_0.symm.trans hx178_0)
      injection hv178_0 with hva_ hvn_ hvc_
      rw [hva_] at ge178_0
      rw [hvc_] at ul178_0
      have HL178_0 := Aside0.mk (show Kd.V (Kd.int .i64) 3 _ w.heap.size _ _ (rd_L1 l0 x6_1) from Kd.V_mk ul178_0 ge178_0)
      clear hva_ hvn_ hvc_ ge178_0 ul178_0
      clear hcc178 hce178
      have HR178_0 := Aside0.mk hi178_0
      have HC178_0 := Aside0.mk hl178_0
      clear hi178_0 hl178_0
      replace p178 := eq_true p178
      replace q178 := eq_true q178
      go_wp2_with (first|((with_reducible refine gate_callee (f := 55) rfl ?_);refine goesL_ (some 18) rfl rfl Tryz.func55 (by kernel_rfl) rfl #[.slice A1 l1.length c1, .slice A178_0 (rd_L1 l0 x6_1).length c178_0] rfl (by (try simp only [List.map_toArray, List.map_cons, List.map_nil]);first | done | rfl | (simp only [List.length_drop, List.length_take];rfl)) ?_;(with_reducible refine (galoisref23_Has.calls k1 _ _ l1 _ _ (rd_L1 l0 x6_1) false _ ?side1 ?side2 ?side3 ?side4 A5.out).mono ?_);(case side1 => exact Cst (Kd.C_below HR1.out HB.out));(case side2 => exact HC1.out);(case side3 => repeat (first|exact (by repeat (first|(with_reducible exact HR178_0.out) | (with_reducible refine Kd.C_alloc ?_ _) | (with_reducible refine Kd.C_drewN ?_ _) | (with_reducible refine Kd.C_drew ?_) | exact HR178_0.out)) | (with_reducible refine Kd.C_alloc ?_ _) | (with_reducible refine Kd.C_drewN ?_ _) | (with_reducible refine Kd.C_drew ?_)));(case side4 => exact HC178_0.out);rintro e w' ⟨rfl, ⟨nd, rfl⟩⟩;refine ⟨_, rfl, ?_⟩))
      go_roundg k1
      case measure => have := HK1.out;omega
      case rel => exact ⟨(x5_1), (wrap64 (x6_1 + 1)), (by first | rfl | (simp;done) | (simp [*];done)), H', ⟨by have := HK1.out;omega⟩, ⟨Vst HO_0.out⟩, ⟨Nst HO_5.out⟩, ⟨bel HB.out⟩⟩
    ·rw [if_neg c4] at H
     exact absurd H (by simp)
   ·rw [if_neg c3] at H
    have c3b0 : decide (x6_1 < (l0.length : Int)) = false := decide_eq_false c3
    clear c3
    obtain rfl := Option.some.inj H
    go_wp2
    go_ret
    exact ⟨_, by first | rfl | (simp [errW_none, errW_some] <;> rfl) | (simp [*, errW_none, errW_some] <;> rfl), Nst HO_5.out, bel HB.out⟩
def galoisref23_Subset.f (k : Nat) (l0 : List (List Int)) (l1 : List (List Int)) : Option (Bool) := (galoisref23_Common.f k l0 l1).bind fun t184 => (some ((t184.length : Int) == (l0.length : Int)))
set_option maxHeartbeats 8000000 in
set_option maxRecDepth 100000 in
theorem galoisref23_Subset.calls (k : Nat) (A0 : Option Addr) (c0 : Nat) (l0 : List (List Int)) (A1 : Option Addr) (c1 : Nat) (l1 : List (List Int)) (r : Bool) (w : World) (hr0 : Kd.C (Kd.slice 3 (Kd.int .i64)) w A0 l0.length l0) (hc0 : l0.length ≤ c0) (hr1 : Kd.C (Kd.slice 3 (Kd.int .i64)) w A1 l1.length l1) (hc1 : l1.length ≤ c1) (h : galoisref23_Subset.f k l0 l1 = some r) :
  Calls Tryz.prog 33 #[.slice A0 l0.length c0, .slice A1 l1.length c1] w fun e w' => e = .returned (.bool r) ∧ Below w.heap.size w w' := by
 have HR0 := Aside0.mk hr0
 have HC0 := Aside0.mk hc0
 clear hr0 hc0
 have HR1 := Aside0.mk hr1
 have HC1 := Aside0.mk hc1
 clear hr1 hc1
 have HB := Aside0.mk (Below.refl w.heap.size w)
 have H : ((galoisref23_Common.f k l0 l1).bind fun t184 => (some ((t184.length : Int) == (l0.length : Int)))) = some r := h
 clear h
 replace H := Option.bind_eq_some_iff.mp H
 obtain ⟨t184, A30, H⟩ := H
 replace H : (some ((t184.length : Int) == (l0.length : Int))) = some r := H
 have A3 := Aside0.mk A30
 clear A30
 obtain rfl := Option.some.inj H
 go_enter Tryz.func33, Tryz.ntmps33
 go_wp2_with (first|((with_reducible refine gate_callee (f := 34) rfl ?_);refine goesL_ (some 7) rfl rfl Tryz.func34 (by kernel_rfl) rfl #[.slice A0 l0.length c0, .slice A1 l1.length c1] rfl (by (try simp only [List.map_toArray, List.map_cons, List.map_nil]);first | done | rfl | (simp only [List.length_drop, List.length_take];rfl)) ?_;(with_reducible refine (galoisref23_Common.calls k (fun k_ => k_ < w.heap.size) _ _ l0 _ _ l1 t184 _ ?side1 ?side2 ?side3 A3.out).mono ?_);(case side1 => exact Kd.V_mk HC0.out (Kd.F_below (Kd.C_F (Kd.heap_slice 3 (Kd.heap_int .i64)) HR0.out) (bel HB.out)));(case side2 => exact Cst HR1.out);(case side3 => exact HC1.out);rintro e w4 ⟨v185, rfl, ho0, hb⟩;refine ⟨_, rfl, ?_⟩;have n0_ := Aside0.mk (Kd.N_lower (Kd.N_mono (ok' := fun k_ => True) ho0 (fun k_ hk_ => trivial)) (below_size (bel HB.out)));have n1_ := Aside0.mk (below_step (bel HB.out) hb);clear HB;have HO186 := n0_;have HB := n1_;clear n0_ n1_;(try clear hb);(try clear hb2);(try clear hk);(try clear hi);(try clear ho0);obtain ⟨Ao5, co5, eo5⟩ := Kd.N_slice HO186.out;subst eo5))
 go_ret
 exact ⟨by first | rfl | (simp [errW_none, errW_some] <;> rfl) | (simp [*, errW_none, errW_some] <;> rfl), bel HB.out⟩
end Go.Proofs.YtmbldnoepjmhhaaGreat.PRf
