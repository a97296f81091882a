-- Printed.
import Derived.Test.YtmbldnoepjmhhaaGreatZPermgroupPairsMg0
import Derived.Test.YtmbldnoepjmhhaaGreatZPermgroupPairsPRfx0
import Derived.Test.YtmbldnoepjmhhaaGreatZPermgroupPairsPRfx1
namespace Go.Proofs.YtmbldnoepjmhhaaGreat.PRf
open Go.RowKit Go.Proofs.YtmbldnoepjmhhaaGreatW.PrintWords Go.Proofs.YtmbldnoepjmhhaaGreatW.PrintLast Go.Proofs.YtmbldnoepjmhhaaGreatW.PrintMore Go.Proofs.YtmbldnoepjmhhaaGreat.PAll
attribute [local go_sem] max2_int min2_int max_two min_two max_three min_three max_four min_four
set_option linter.unusedVariables false
set_option linter.unusedSimpArgs false
def galoisref22_Mul.l0 : Nat → List Int → List Int → List Int → Int → Option (List Int)
 | 0, _, _, _, _ => none
 | k + 1, x0, x1, x5, x6 => if x6 < (x0.length : Int) then (if 0 ≤ x6 then (if 0 ≤ (rd x0 x6) then (if (rd x0 x6) < (x1.length : Int) then (if x6 < (x5.length : Int) then (galoisref22_Mul.l0 k x0 x1 (x5.set (x6 : Int).toNat (rd x1 (rd x0 x6))) (wrap64 (x6 + 1))) else (none)) else (none)) else (none)) else (none)) else (some x5)
def galoisref22_Mul.f (k : Nat) (l0 : List Int) (l1 : List Int) : Option (List Int) := if 0 ≤ (l0.length : Int) then (if ((l0.length : Int) : Int).toNat ≤ 35184372088832 then (galoisref22_Mul.l0 k l0 l1 (List.replicate ((l0.length : Int) : Int).toNat 0) 0) else (none)) else (none)
theorem galoisref22_Mul.mono_l : ∀ k, (∀ y0 y1 y2 y3, LeO (galoisref22_Mul.l0 k y0 y1 y2 y3) (galoisref22_Mul.l0 (k + 1) y0 y1 y2 y3))
 | 0 => fun _ _ _ _ r h => by simp [galoisref22_Mul.l0] at h
 | k + 1 => by
  have ih0 := galoisref22_Mul.mono_l k
  ·intro y0 y1 y2 y3
   unfold galoisref22_Mul.l0
   repeat' first
   | (with_reducible exact ih0 _ _ _ _)
   | (with_reducible exact LeO.refl _)
   | (with_reducible exact LeO.none _)
   | (with_reducible refine LeO.ite ?_ ?_)
   | (with_reducible refine LeO.bind ?_ (fun _ => ?_))
   | exact ih0 _ _ _ _
   | exact LeO.none _
   | refine LeO.ite ?_ ?_
   | refine LeO.bind ?_ (fun _ => ?_)
theorem galoisref22_Mul.mono : ∀ a0 a1 k, LeO (galoisref22_Mul.f k a0 a1) (galoisref22_Mul.f (k + 1) a0 a1) := by
 intro a0 a1 k
 have ih0 := galoisref22_Mul.mono_l k
 unfold galoisref22_Mul.f
 repeat' first
   | (with_reducible exact ih0 _ _ _ _)
   | (with_reducible exact LeO.refl _)
   | (with_reducible exact LeO.none _)
   | (with_reducible refine LeO.ite ?_ ?_)
   | (with_reducible refine LeO.bind ?_ (fun _ => ?_))
   | exact ih0 _ _ _ _
   | exact LeO.none _
   | refine LeO.ite ?_ ?_
   | refine LeO.bind ?_ (fun _ => ?_)
set_option maxHeartbeats 8000000 in
set_option maxRecDepth 100000 in
theorem galoisref22_Mul.calls (k : Nat) (A0 : Option Addr) (c0 : Nat) (l0 : List Int) (A1 : Option Addr) (c1 : Nat) (l1 : List Int) (r : List Int) (w : World) (hr0 : Kd.C (Kd.int .i64) w A0 l0.length l0) (hc0 : l0.length ≤ c0) (hr1 : Kd.C (Kd.int .i64) w A1 l1.length l1) (hc1 : l1.length ≤ c1) (h : galoisref22_Mul.f k l0 l1 = some r) :
  Calls Tryz.prog 60 #[.slice A0 l0.length c0, .slice A1 l1.length c1] w fun e w' => ∃ v0_ : Value, e = .returned (v0_) ∧ Kd.R (Kd.int .i64) 3 w' w.heap.size (fun _ => True) v0_ r ∧ Below w.heap.size w w' := by
 have HR0 := Aside0.mk hr0
 have HC0 := Aside0.mk hc0
 clear hr0 hc0
 have HR1 := Aside0.mk hr1
 have HC1 := Aside0.mk hc1
 clear hr1 hc1
 have HB := Aside0.mk (Below.refl w.heap.size w)
 have H : (if 0 ≤ (l0.length : Int) then (if ((l0.length : Int) : Int).toNat ≤ 35184372088832 then (galoisref22_Mul.l0 k l0 l1 (List.replicate ((l0.length : Int) : Int).toNat 0) 0) else (none)) else (none)) = some r := h
 clear h
 by_cases c3 : 0 ≤ (l0.length : Int)
 ·rw [if_pos c3] at H
  have c3b0 := eq_true c3
  have c3b1 : decide (0 ≤ (l0.length : Int)) = true := decide_eq_true c3
  clear c3
  by_cases c4 : ((l0.length : Int) : Int).toNat ≤ 35184372088832
  ·rw [if_pos c4] at H
   have c4b0 := eq_true c4
   have c4b1 : decide (((l0.length : Int) : Int).toNat ≤ 35184372088832) = true := decide_eq_true c4
   clear c4
   obtain ⟨y110, hy110⟩ : ∃ y_ : List Int, y_ = (List.replicate ((l0.length : Int) : Int).toNat 0) := ⟨_, rfl⟩
   replace H : (galoisref22_Mul.l0 k l0 l1 y110 0) = some r := by first | (rw [hy110];with_reducible exact H) | (have H2_ := (Option.bind_some _ _).symm.trans H;rw [hy110];with_reducible exact H2_) | (have H2_ := (Option.bind_some _ _).symm.trans H;with_reducible exact H2_) | with_reducible exact H | (rw [hy110];exact H) | exact H
   have Ny110 := Aside0.mk hy110
   clear hy110
   have H' := Aside0.mk H
   clear H
   go_enter Tryz.func60, Tryz.ntmps60
   go_wp2_with (first|((with_reducible refine gate_dst (N := 9) rfl ?_);refine Kd.R_make (Kd.int .i64) _ 3 rfl (N := 9) rfl 39 _ _ rfl (l0.length : Int) rfl rfl Tryz.underlying39 (.int .i64 0) 8 info3 rfl (by decide) (by omega) 0 (ok := fun _ => True) (okp := fun _ => True) rfl (fun _ hk => hk) trivial (of_decide_eq_true (by assumption)) (Nat.le_trans (Nat.mul_le_mul_right _ (of_decide_eq_true (by assumption) : (l0.length : Int).toNat ≤ 35184372088832)) (by omega)) (Below.refl _ _) (Nat.le_refl _) ?_;intro v111 w5 ho6 hb hg_ hnew_;clear hg_ hnew_;(first|rw [← Ny110.out] at ho6 | (simp only [Int.reduceToNat] at ho6;rw [← Ny110.out] at ho6));have n0_ := Aside0.mk (Kd.R_lower ho6 (below_size (bel HB.out)));have n1_ := Aside0.mk (below_step (bel HB.out) hb);clear HB;have HO112 := n0_;have HB := n1_;clear n0_ n1_;clear hb ho6))
   go_loopg [6] k (fun kq v6 w' => ∃ (x5_1 : List Int) (x6_1 : Int), v6 = .int .i64 x6_1 ∧ Aside0 (galoisref22_Mul.l0 kq l0 l1 x5_1 x6_1 = some r) ∧ Aside0 (kq ≤ k) ∧ Aside0 (Kd.R (Kd.int .i64) 3 w' w.heap.size (fun _ => True) v111 x5_1) ∧ Aside0 (Below w.heap.size w w'))
   case atStart => exact ⟨(y110), (0), (by first | rfl | (simp;done) | (simp [*];done)), H', ⟨Nat.le_refl _⟩, ⟨Rst HO112.out⟩, ⟨bel HB.out⟩⟩
   case round =>
    clear H'
    try clear c1
    try clear p2
    try clear c3
    try clear c3b0
    try clear c3b1
    try clear c4
    try clear c4b0
    try clear c4b1
    try clear c6
    obtain ⟨x5_1, x6_1, rfl, HA, HK1, HO_5, HB⟩ := hrel
    cases gk with
    | zero => exact absurd HA.out (by simp [galoisref22_Mul.l0])
    | succ k1 =>
     have H := HA.out
     clear HA
     simp only [galoisref22_Mul.l0] at H
     by_cases c7 : x6_1 < (l0.length : Int)
     ·rw [if_pos c7] at H
      have c7b0 : decide (x6_1 < (l0.length : Int)) = true := decide_eq_true c7
      clear c7
      by_cases c8 : 0 ≤ x6_1
      ·rw [if_pos c8] at H
       have c8b0 : decide (0 ≤ x6_1) = true := decide_eq_true c8
       clear c8
       by_cases c9 : 0 ≤ (rd l0 x6_1)
       ·rw [if_pos c9] at H
        have c9b0 : decide (0 ≤ (rd l0 x6_1)) = true := decide_eq_true c9
        clear c9
        by_cases c10 : (rd l0 x6_1) < (l1.length : Int)
        ·rw [if_pos c10] at H
         have c10b0 : decide ((rd l0 x6_1) < (l1.length : Int)) = true := decide_eq_true c10
         clear c10
         by_cases c11 : x6_1 < (x5_1.length : Int)
         ·rw [if_pos c11] at H
          have c11b0 : decide (x6_1 < (x5_1.length : Int)) = true := decide_eq_true c11
          clear c11
          obtain ⟨y115, hy115⟩ : ∃ y_ : List Int, y_ = (x5_1.set (x6_1 : Int).toNat (rd l1 (rd l0 x6_1))) := ⟨_, rfl⟩
          replace H : (galoisref22_Mul.l0 k1 l0 l1 y115 (wrap64 (x6_1 + 1))) = some r := by first | (rw [hy115];with_reducible exact H) | (have H2_ := (Option.bind_some _ _).symm.trans H;rw [hy115];with_reducible exact H2_) | (have H2_ := (Option.bind_some _ _).symm.trans H;with_reducible exact H2_) | with_reducible exact H | (rw [hy115];exact H) | exact H
          have Ny115 := Aside0.mk hy115
          clear hy115
          have H' := Aside0.mk H
          clear H
          have p113 : 0 ≤ (x6_1 : Int) := of_decide_eq_true (by assumption)
          have q113 : x6_1 < (l0.length : Int) := of_decide_eq_true (by assumption)
          obtain ⟨ad113, e113, hx113_0⟩ := Kd.at_int HR0.out x6_1 p113 q113
          cases e113
          try (replace hx113_0 := (HB.out.cell (World.block_lt_of_cell? w _ hx113_0)).trans hx113_0)
          replace p113 := eq_true p113
          replace q113 := eq_true q113
          have p114 : 0 ≤ ((rd l0 x6_1) : Int) := of_decide_eq_true (by assumption)
          have q114 : (rd l0 x6_1) < (l1.length : Int) := of_decide_eq_true (by assumption)
          obtain ⟨ad114, e114, hx114_0⟩ := Kd.at_int HR1.out (rd l0 x6_1) p114 q114
          cases e114
          try (replace hx114_0 := (HB.out.cell (World.block_lt_of_cell? w _ hx114_0)).trans hx114_0)
          replace p114 := eq_true p114
          replace q114 := eq_true q114
          have p12 : 0 ≤ (x6_1 : Int) := of_decide_eq_true (by assumption)
          have q12 : (x6_1 : Int) < ((x5_1.length : Int) : Int) := of_decide_eq_true (by assumption)
          obtain ⟨go12, co12, eo12, gb12, gl12, cl12, HG12⟩ := Kd.R_form HO_5.out (by omega)
          (first|cases eo12 | (injection eo12 with ea_ en_ ec_;(first|subst ea_ | (injection ea_ with ea_;subst ea_));subst ec_;clear en_))
          have GB12 := Aside0.mk gb12
          have GG12 := Aside0.mk HG12
          clear gb12 gl12 HG12
          obtain ⟨hx12_0, hf12_0⟩ := Kd.R_celln 0 HO_5.out (x6_1 : Int) p12 q12
          replace p12 := eq_true p12
          replace q12 := eq_true q12
          have HP13 := Kd.R_putg HO_5.out (x6_1 : Int) (rd l1 (rd l0 x6_1))
          go_wp2_with (first|((with_reducible refine gate_store (t := 3) (p := 25) rfl ?_);refine store_event (t := 3) (p := 25) (v := ?vo_w14) (w1 := (wr.setCell ⟨go12, (x6_1 : Int).toNat, none⟩ (.int .i64 (rd l1 (rd l0 x6_1))))) ?hg ?ho ?hn ?hr ?_;(case ho => rfl);(case hg => rfl);(case hn => rfl);(case hr => first | (go_simp;done) | (go_simp;rfl));intro w14 hw;have hg : wr.grownBy w14 (some go12) := (by rw [hw];exact HP13.2);have hp_ : Kd.R (Kd.int .i64) 3 w14 w.heap.size (fun _ => True) (.slice (some ⟨go12, 0, none⟩) x5_1.length co12) y115 := (by rw [hw, Ny115.out];exact HP13.1);clear HP13;have n0_ := Aside0.mk (hp_);have n1_ := Aside0.mk ((by rw [hw];exact below_set (HB.out) GB12.out : Below w.heap.size w w14));clear HO_5;clear HB;have HO_5 := n0_;have HB := n1_;clear n0_ n1_;clear hg hw hp_))
          go_roundg k1
          case measure => have := HK1.out;omega
          case rel => exact ⟨(y115), (wrap64 (x6_1 + 1)), (by first | rfl | (simp;done) | (simp [*];done)), H', ⟨by have := HK1.out;omega⟩, ⟨Rst HO_5.out⟩, ⟨bel HB.out⟩⟩
         ·rw [if_neg c11] at H
          exact absurd H (by simp)
        ·rw [if_neg c10] at H
         exact absurd H (by simp)
       ·rw [if_neg c9] at H
        exact absurd H (by simp)
      ·rw [if_neg c8] at H
       exact absurd H (by simp)
     ·rw [if_neg c7] at H
      have c7b0 : decide (x6_1 < (l0.length : Int)) = false := decide_eq_false c7
      clear c7
      obtain rfl := Option.some.inj H
      go_wp2
      go_ret
      exact ⟨_, by first | rfl | (simp [errW_none, errW_some] <;> rfl) | (simp [*, errW_none, errW_some] <;> rfl), Rst HO_5.out, bel HB.out⟩
  ·rw [if_neg c4] at H
   exact absurd H (by simp)
 ·rw [if_neg c3] at H
  exact absurd H (by simp)
def galoisref22_Identity.l0 : Nat → Int → List Int → Int → Option (List Int)
 | 0, _, _, _ => none
 | k + 1, x0, x3, x4 => if x4 < x0 then (if 0 ≤ x4 then (if x4 < (x3.length : Int) then (galoisref22_Identity.l0 k x0 (x3.set (x4 : Int).toNat x4) (wrap64 (x4 + 1))) else (none)) else (none)) else (some x3)
def galoisref22_Identity.f (k : Nat) (a0 : Int) : Option (List Int) := if 0 ≤ a0 then (if (a0 : Int).toNat ≤ 35184372088832 then (galoisref22_Identity.l0 k a0 (List.replicate (a0 : Int).toNat 0) 0) else (none)) else (none)
theorem galoisref22_Identity.mono_l : ∀ k, (∀ y0 y1 y2, LeO (galoisref22_Identity.l0 k y0 y1 y2) (galoisref22_Identity.l0 (k + 1) y0 y1 y2))
 | 0 => fun _ _ _ r h => by simp [galoisref22_Identity.l0] at h
 | k + 1 => by
  have ih0 := galoisref22_Identity.mono_l k
  ·intro y0 y1 y2
   unfold galoisref22_Identity.l0
   repeat' first
   | (with_reducible exact ih0 _ _ _)
   | (with_reducible exact LeO.refl _)
   | (with_reducible exact LeO.none _)
   | (with_reducible refine LeO.ite ?_ ?_)
   | (with_reducible refine LeO.bind ?_ (fun _ => ?_))
   | exact ih0 _ _ _
   | exact LeO.none _
   | refine LeO.ite ?_ ?_
   | refine LeO.bind ?_ (fun _ => ?_)
theorem galoisref22_Identity.mono : ∀ a0 k, LeO (galoisref22_Identity.f k a0) (galoisref22_Identity.f (k + 1) a0) := by
 intro a0 k
 have ih0 := galoisref22_Identity.mono_l k
 unfold galoisref22_Identity.f
 repeat' first
   | (with_reducible exact ih0 _ _ _)
   | (with_reducible exact LeO.refl _)
   | (with_reducible exact LeO.none _)
   | (with_reducible refine LeO.ite ?_ ?_)
   | (with_reducible refine LeO.bind ?_ (fun _ => ?_))
   | exact ih0 _ _ _
   | exact LeO.none _
   | refine LeO.ite ?_ ?_
   | refine LeO.bind ?_ (fun _ => ?_)
set_option maxHeartbeats 8000000 in
set_option maxRecDepth 100000 in
theorem galoisref22_Identity.calls (k : Nat) (a0 : Int) (r : List Int) (w : World) (h : galoisref22_Identity.f k a0 = some r) :
  Calls Tryz.prog 54 #[.int .i64 a0] w fun e w' => ∃ v0_ : Value, e = .returned (v0_) ∧ Kd.R (Kd.int .i64) 3 w' w.heap.size (fun _ => True) v0_ r ∧ Below w.heap.size w w' := by
 have HB := Aside0.mk (Below.refl w.heap.size w)
 have H : (if 0 ≤ a0 then (if (a0 : Int).toNat ≤ 35184372088832 then (galoisref22_Identity.l0 k a0 (List.replicate (a0 : Int).toNat 0) 0) else (none)) else (none)) = some r := h
 clear h
 by_cases c2 : 0 ≤ a0
 ·rw [if_pos c2] at H
  have c2b0 := eq_true c2
  have c2b1 : decide (0 ≤ a0) = true := decide_eq_true c2
  clear c2
  by_cases c3 : (a0 : Int).toNat ≤ 35184372088832
  ·rw [if_pos c3] at H
   have c3b0 := eq_true c3
   have c3b1 : decide ((a0 : Int).toNat ≤ 35184372088832) = true := decide_eq_true c3
   clear c3
   obtain ⟨y116, hy116⟩ : ∃ y_ : List Int, y_ = (List.replicate (a0 : Int).toNat 0) := ⟨_, rfl⟩
   replace H : (galoisref22_Identity.l0 k a0 y116 0) = some r := by first | (rw [hy116];with_reducible exact H) | (have H2_ := (Option.bind_some _ _).symm.trans H;rw [hy116];with_reducible exact H2_) | (have H2_ := (Option.bind_some _ _).symm.trans H;with_reducible exact H2_) | with_reducible exact H | (rw [hy116];exact H) | exact H
   have Ny116 := Aside0.mk hy116
   clear hy116
   have H' := Aside0.mk H
   clear H
   go_enter Tryz.func54, Tryz.ntmps54
   go_wp2_with (first|((with_reducible refine gate_dst (N := 6) rfl ?_);refine Kd.R_make (Kd.int .i64) _ 3 rfl (N := 6) rfl 39 _ _ rfl a0 rfl rfl Tryz.underlying39 (.int .i64 0) 8 info3 rfl (by decide) (by omega) 0 (ok := fun _ => True) (okp := fun _ => True) rfl (fun _ hk => hk) trivial (of_decide_eq_true (by assumption)) (Nat.le_trans (Nat.mul_le_mul_right _ (of_decide_eq_true (by assumption) : a0.toNat ≤ 35184372088832)) (by omega)) (Below.refl _ _) (Nat.le_refl _) ?_;intro v117 w4 ho5 hb hg_ hnew_;clear hg_ hnew_;(first|rw [← Ny116.out] at ho5 | (simp only [Int.reduceToNat] at ho5;rw [← Ny116.out] at ho5));have n0_ := Aside0.mk (Kd.R_lower ho5 (below_size (bel HB.out)));have n1_ := Aside0.mk (below_step (bel HB.out) hb);clear HB;have HO118 := n0_;have HB := n1_;clear n0_ n1_;clear hb ho5))
   go_loopg [4] k (fun kq v4 w' => ∃ (x3_1 : List Int) (x4_1 : Int), v4 = .int .i64 x4_1 ∧ Aside0 (galoisref22_Identity.l0 kq a0 x3_1 x4_1 = some r) ∧ Aside0 (kq ≤ k) ∧ Aside0 (Kd.R (Kd.int .i64) 3 w' w.heap.size (fun _ => True) v117 x3_1) ∧ Aside0 (Below w.heap.size w w'))
   case atStart => exact ⟨(y116), (0), (by first | rfl | (simp;done) | (simp [*];done)), H', ⟨Nat.le_refl _⟩, ⟨Rst HO118.out⟩, ⟨bel HB.out⟩⟩
   case round =>
    clear H'
    try clear c2
    try clear c2b0
    try clear c2b1
    try clear p2
    try clear c3
    try clear c3b0
    try clear c3b1
    try clear c5
    obtain ⟨x3_1, x4_1, rfl, HA, HK1, HO_3, HB⟩ := hrel
    cases gk with
    | zero => exact absurd HA.out (by simp [galoisref22_Identity.l0])
    | succ k1 =>
     have H := HA.out
     clear HA
     simp only [galoisref22_Identity.l0] at H
     by_cases c6 : x4_1 < a0
     ·rw [if_pos c6] at H
      have c6b0 : decide (x4_1 < a0) = true := decide_eq_true c6
      clear c6
      by_cases c7 : 0 ≤ x4_1
      ·rw [if_pos c7] at H
       have c7b0 : decide (0 ≤ x4_1) = true := decide_eq_true c7
       clear c7
       by_cases c8 : x4_1 < (x3_1.length : Int)
       ·rw [if_pos c8] at H
        have c8b0 : decide (x4_1 < (x3_1.length : Int)) = true := decide_eq_true c8
        clear c8
        obtain ⟨y119, hy119⟩ : ∃ y_ : List Int, y_ = (x3_1.set (x4_1 : Int).toNat x4_1) := ⟨_, rfl⟩
        replace H : (galoisref22_Identity.l0 k1 a0 y119 (wrap64 (x4_1 + 1))) = some r := by first | (rw [hy119];with_reducible exact H) | (have H2_ := (Option.bind_some _ _).symm.trans H;rw [hy119];with_reducible exact H2_) | (have H2_ := (Option.bind_some _ _).symm.trans H;with_reducible exact H2_) | with_reducible exact H | (rw [hy119];exact H) | exact H
        have Ny119 := Aside0.mk hy119
        clear hy119
        have H' := Aside0.mk H
        clear H
        have p9 : 0 ≤ (x4_1 : Int) := of_decide_eq_true (by assumption)
        have q9 : (x4_1 : Int) < ((x3_1.length : Int) : Int) := of_decide_eq_true (by assumption)
        obtain ⟨go9, co9, eo9, gb9, gl9, cl9, HG9⟩ := Kd.R_form HO_3.out (by omega)
        (first|cases eo9 | (injection eo9 with ea_ en_ ec_;(first|subst ea_ | (injection ea_ with ea_;subst ea_));subst ec_;clear en_))
        have GB9 := Aside0.mk gb9
        have GG9 := Aside0.mk HG9
        clear gb9 gl9 HG9
        obtain ⟨hx9_0, hf9_0⟩ := Kd.R_celln 0 HO_3.out (x4_1 : Int) p9 q9
        replace p9 := eq_true p9
        replace q9 := eq_true q9
        have HP10 := Kd.R_putg HO_3.out (x4_1 : Int) x4_1
        go_wp2_with (first|((with_reducible refine gate_store (t := 3) (p := 15) rfl ?_);refine store_event (t := 3) (p := 15) (v := ?vo_w11) (w1 := (wr.setCell ⟨go9, (x4_1 : Int).toNat, none⟩ (.int .i64 x4_1))) ?hg ?ho ?hn ?hr ?_;(case ho => rfl);(case hg => rfl);(case hn => rfl);(case hr => first | (go_simp;done) | (go_simp;rfl));intro w11 hw;have hg : wr.grownBy w11 (some go9) := (by rw [hw];exact HP10.2);have hp_ : Kd.R (Kd.int .i64) 3 w11 w.heap.size (fun _ => True) (.slice (some ⟨go9, 0, none⟩) x3_1.length co9) y119 := (by rw [hw, Ny119.out];exact HP10.1);clear HP10;have n0_ := Aside0.mk (hp_);have n1_ := Aside0.mk ((by rw [hw];exact below_set (HB.out) GB9.out : Below w.heap.size w w11));clear HO_3;clear HB;have HO_3 := n0_;have HB := n1_;clear n0_ n1_;clear hg hw hp_))
        go_roundg k1
        case measure => have := HK1.out;omega
        case rel => exact ⟨(y119), (wrap64 (x4_1 + 1)), (by first | rfl | (simp;done) | (simp [*];done)), H', ⟨by have := HK1.out;omega⟩, ⟨Rst HO_3.out⟩, ⟨bel HB.out⟩⟩
       ·rw [if_neg c8] at H
        exact absurd H (by simp)
      ·rw [if_neg c7] at H
       exact absurd H (by simp)
     ·rw [if_neg c6] at H
      have c6b0 : decide (x4_1 < a0) = false := decide_eq_false c6
      clear c6
      obtain rfl := Option.some.inj H
      go_wp2
      go_ret
      exact ⟨_, by first | rfl | (simp [errW_none, errW_some] <;> rfl) | (simp [*, errW_none, errW_some] <;> rfl), Rst HO_3.out, bel HB.out⟩
  ·rw [if_neg c3] at H
   exact absurd H (by simp)
 ·rw [if_neg c2] at H
  exact absurd H (by simp)
def galoisref22_Compare.l0 : Nat → List Int → List Int → Int → Option (Int)
 | 0, _, _, _ => none
 | k + 1, x0, x1, x5 => if x5 < (x0.length : Int) then (if 0 ≤ x5 then (if x5 < (x1.length : Int) then (if (rd x0 x5) < (rd x1 x5) then (some (-1)) else (if (rd x0 x5) > (rd x1 x5) then (some 1) else (galoisref22_Compare.l0 k x0 x1 (wrap64 (x5 + 1))))) else (none)) else (none)) else (some 0)
def galoisref22_Compare.f (k : Nat) (l0 : List Int) (l1 : List Int) : Option (Int) := galoisref22_Compare.l0 k l0 l1 0
theorem galoisref22_Compare.mono_l : ∀ k, (∀ y0 y1 y2, LeO (galoisref22_Compare.l0 k y0 y1 y2) (galoisref22_Compare.l0 (k + 1) y0 y1 y2))
 | 0 => fun _ _ _ r h => by simp [galoisref22_Compare.l0] at h
 | k + 1 => by
  have ih0 := galoisref22_Compare.mono_l k
  ·intro y0 y1 y2
   unfold galoisref22_Compare.l0
   repeat' first
   | (with_reducible exact ih0 _ _ _)
   | (with_reducible exact LeO.refl _)
   | (with_reducible exact LeO.none _)
   | (with_reducible refine LeO.ite ?_ ?_)
   | (with_reducible refine LeO.bind ?_ (fun _ => ?_))
   | exact ih0 _ _ _
   | exact LeO.none _
   | refine LeO.ite ?_ ?_
   | refine LeO.bind ?_ (fun _ => ?_)
theorem galoisref22_Compare.mono : ∀ a0 a1 k, LeO (galoisref22_Compare.f k a0 a1) (galoisref22_Compare.f (k + 1) a0 a1) := by
 intro a0 a1 k
 have ih0 := galoisref22_Compare.mono_l k
 unfold galoisref22_Compare.f
 repeat' first
   | (with_reducible exact ih0 _ _ _)
   | (with_reducible exact LeO.refl _)
   | (with_reducible exact LeO.none _)
   | (with_reducible refine LeO.ite ?_ ?_)
   | (with_reducible refine LeO.bind ?_ (fun _ => ?_))
   | exact ih0 _ _ _
   | exact LeO.none _
   | refine LeO.ite ?_ ?_
   | refine LeO.bind ?_ (fun _ => ?_)
set_option maxHeartbeats 8000000 in
set_option maxRecDepth 100000 in
theorem galoisref22_Compare.calls (k : Nat) (A0 : Option Addr) (c0 : Nat) (l0 : List Int) (A1 : Option Addr) (c1 : Nat) (l1 : List Int) (r : Int) (w : World) (hr0 : Kd.C (Kd.int .i64) w A0 l0.length l0) (hc0 : l0.length ≤ c0) (hr1 : Kd.C (Kd.int .i64) w A1 l1.length l1) (hc1 : l1.length ≤ c1) (h : galoisref22_Compare.f k l0 l1 = some r) :
  Calls Tryz.prog 130 #[.slice A0 l0.length c0, .slice A1 l1.length c1] w fun e w' => e = .returned (.int .i64 r) ∧ Drawn0 w w' := by
 have HR0 := Aside0.mk hr0
 have HC0 := Aside0.mk hc0
 clear hr0 hc0
 have HR1 := Aside0.mk hr1
 have HC1 := Aside0.mk hc1
 clear hr1 hc1
 have H : (galoisref22_Compare.l0 k l0 l1 0) = some r := h
 clear h
 have H' := Aside0.mk H
 clear H
 go_enter Tryz.func130, Tryz.ntmps130
 go_wp2
 repeat (go_quiet (fail);try go_wp2)
 go_loopg [5] k (fun kq v5 w' => ∃ (x5_1 : Int), v5 = .int .i64 x5_1 ∧ Aside0 (galoisref22_Compare.l0 kq l0 l1 x5_1 = some r) ∧ Aside0 (kq ≤ k) ∧ Drawn0 w w')
 case atStart => exact ⟨(0), (by first | rfl | (simp;done) | (simp [*];done)), H', ⟨Nat.le_refl _⟩, by repeat (first|exact Drawn0.refl _ | apply Drawn0.step)⟩
 case round =>
  clear H'
  try clear c1
  try clear p2
  obtain ⟨x5_1, rfl, HA, HK1, ⟨m1, rfl⟩⟩ := hrel
  cases gk with
  | zero => exact absurd HA.out (by simp [galoisref22_Compare.l0])
  | succ k1 =>
   have H := HA.out
   clear HA
   simp only [galoisref22_Compare.l0] at H
   by_cases c3 : x5_1 < (l0.length : Int)
   ·rw [if_pos c3] at H
    have c3b0 : decide (x5_1 < (l0.length : Int)) = true := decide_eq_true c3
    clear c3
    by_cases c4 : 0 ≤ x5_1
    ·rw [if_pos c4] at H
     have c4b0 : decide (0 ≤ x5_1) = true := decide_eq_true c4
     clear c4
     by_cases c5 : x5_1 < (l1.length : Int)
     ·rw [if_pos c5] at H
      have c5b0 : decide (x5_1 < (l1.length : Int)) = true := decide_eq_true c5
      clear c5
      by_cases c6 : (rd l0 x5_1) < (rd l1 x5_1)
      ·rw [if_pos c6] at H
       have c6b0 : decide ((rd l0 x5_1) < (rd l1 x5_1)) = true := decide_eq_true c6
       clear c6
       obtain rfl := Option.some.inj H
       have p134 : 0 ≤ (x5_1 : Int) := of_decide_eq_true (by assumption)
       have q134 : x5_1 < (l0.length : Int) := of_decide_eq_true (by assumption)
       obtain ⟨ad134, e134, hx134_0⟩ := Kd.at_int HR0.out x5_1 p134 q134
       cases e134
       replace p134 := eq_true p134
       replace q134 := eq_true q134
       have p135 : 0 ≤ (x5_1 : Int) := of_decide_eq_true (by assumption)
       have q135 : x5_1 < (l1.length : Int) := of_decide_eq_true (by assumption)
       obtain ⟨ad135, e135, hx135_0⟩ := Kd.at_int HR1.out x5_1 p135 q135
       cases e135
       replace p135 := eq_true p135
       replace q135 := eq_true q135
       go_wp2
       repeat (go_quiet (fail);try go_wp2)
       go_ret
       exact ⟨by first | rfl | (simp;done) | (simp [*];done), by repeat (first|exact Drawn0.refl _ | apply Drawn0.step)⟩
      ·rw [if_neg c6] at H
       have c6b0 : decide ((rd l0 x5_1) < (rd l1 x5_1)) = false := decide_eq_false c6
       clear c6
       by_cases c7 : (rd l0 x5_1) > (rd l1 x5_1)
       ·rw [if_pos c7] at H
        have c7b0 : decide ((rd l1 x5_1) < (rd l0 x5_1)) = true := decide_eq_true c7
        clear c7
        obtain rfl := Option.some.inj H
        have p134 : 0 ≤ (x5_1 : Int) := of_decide_eq_true (by assumption)
        have q134 : x5_1 < (l0.length : Int) := of_decide_eq_true (by assumption)
        obtain ⟨ad134, e134, hx134_0⟩ := Kd.at_int HR0.out x5_1 p134 q134
        cases e134
        replace p134 := eq_true p134
        replace q134 := eq_true q134
        have p135 : 0 ≤ (x5_1 : Int) := of_decide_eq_true (by assumption)
        have q135 : x5_1 < (l1.length : Int) := of_decide_eq_true (by assumption)
        obtain ⟨ad135, e135, hx135_0⟩ := Kd.at_int HR1.out x5_1 p135 q135
        cases e135
        replace p135 := eq_true p135
        replace q135 := eq_true q135
        have p136 : 0 ≤ (x5_1 : Int) := of_decide_eq_true (by assumption)
        have q136 : x5_1 < (l0.length : Int) := of_decide_eq_true (by assumption)
        obtain ⟨ad136, e136, hx136_0⟩ := Kd.at_int HR0.out x5_1 p136 q136
        obtain rfl : ad134 = ad136 := (by injection e136)
        replace p136 := eq_true p136
        replace q136 := eq_true q136
        have p137 : 0 ≤ (x5_1 : Int) := of_decide_eq_true (by assumption)
        have q137 : x5_1 < (l1.length : Int) := of_decide_eq_true (by assumption)
        obtain ⟨ad137, e137, hx137_0⟩ := Kd.at_int HR1.out x5_1 p137 q137
        obtain rfl : ad135 = ad137 := (by injection e137)
        replace p137 := eq_true p137
        replace q137 := eq_true q137
        go_wp2
        repeat (go_quiet (fail);try go_wp2)
        go_ret
        exact ⟨by first | rfl | (simp;done) | (simp [*];done), by repeat (first|exact Drawn0.refl _ | apply Drawn0.step)⟩
       ·rw [if_neg c7] at H
        have c7b0 : decide ((rd l1 x5_1) < (rd l0 x5_1)) = false := decide_eq_false c7
        clear c7
        have H' := Aside0.mk H
        clear H
        have p134 : 0 ≤ (x5_1 : Int) := of_decide_eq_true (by assumption)
        have q134 : x5_1 < (l0.length : Int) := of_decide_eq_true (by assumption)
        obtain ⟨ad134, e134, hx134_0⟩ := Kd.at_int HR0.out x5_1 p134 q134
        cases e134
        replace p134 := eq_true p134
        replace q134 := eq_true q134
        have p135 : 0 ≤ (x5_1 : Int) := of_decide_eq_true (by assumption)
        have q135 : x5_1 < (l1.length : Int) := of_decide_eq_true (by assumption)
        obtain ⟨ad135, e135, hx135_0⟩ := Kd.at_int HR1.out x5_1 p135 q135
        cases e135
        replace p135 := eq_true p135
        replace q135 := eq_true q135
        have p136 : 0 ≤ (x5_1 : Int) := of_decide_eq_true (by assumption)
        have q136 : x5_1 < (l0.length : Int) := of_decide_eq_true (by assumption)
        obtain ⟨ad136, e136, hx136_0⟩ := Kd.at_int HR0.out x5_1 p136 q136
        obtain rfl : ad134 = ad136 := (by injection e136)
        replace p136 := eq_true p136
        replace q136 := eq_true q136
        have p137 : 0 ≤ (x5_1 : Int) := of_decide_eq_true (by assumption)
        have q137 : x5_1 < (l1.length : Int) := of_decide_eq_true (by assumption)
        obtain ⟨ad137, e137, hx137_0⟩ := Kd.at_int HR1.out x5_1 p137 q137
        obtain rfl : ad135 = ad137 := (by injection e137)
        replace p137 := eq_true p137
        replace q137 := eq_true q137
        go_wp2
        first | (with_reducible show Handed _ _ _ _) | (repeat (go_quiet (fail);try go_wp2))
        go_roundg k1
        case measure => have := HK1.out;omega
        case rel => exact ⟨(wrap64 (x5_1 + 1)), (by first | rfl | (simp;done) | (simp [*];done)), H', ⟨by have := HK1.out;omega⟩, by repeat (first|exact Drawn0.refl _ | apply Drawn0.step)⟩
     ·rw [if_neg c5] at H
      exact absurd H (by simp)
    ·rw [if_neg c4] at H
     exact absurd H (by simp)
   ·rw [if_neg c3] at H
    have c3b0 : decide (x5_1 < (l0.length : Int)) = false := decide_eq_false c3
    clear c3
    obtain rfl := Option.some.inj H
    go_wp2
    repeat (go_quiet (fail);try go_wp2)
    go_ret
    exact ⟨by first | rfl | (simp;done) | (simp [*];done), by repeat (first|exact Drawn0.refl _ | apply Drawn0.step)⟩
def galoisref23_Check.l0 : Nat → Int → Int → List (List Int) → Option (Int)
 | 0, _, _, _ => none
 | k + 1, x4, x139000, x139001 => if x4 < (x139001.length : Int) then (if 0 ≤ x4 then ((galoisref22_Check.f k (rd_L1 x139001 x4)).bind fun t141 => (if t141 = 0 then (if ((rd_L1 x139001 x4).length : Int) = x139000 then (galoisref23_Check.l0 k (wrap64 (x4 + 1)) x139000 x139001) else (some 2)) else (some t141))) else (none)) else (some 0)
def galoisref23_Check.f (k : Nat) (a0_0 : Int) (l0_1 : List (List Int)) : Option (Int) := (galoisref22_Degree.f a0_0).bind fun t139 => (if t139 = 0 then (if (l0_1.length : Int) > 32 then (some 5) else (galoisref23_Check.l0 k 0 a0_0 l0_1)) else (some t139))
set_option maxHeartbeats 8000000 in
set_option maxRecDepth 100000 in
theorem galoisref23_Check.calls (k : Nat) (a0_0 : Int) (A0_1 : Option Addr) (c0_1 : Nat) (l0_1 : List (List Int)) (r : Int) (w : World) (hr0_1 : Kd.C (Kd.slice 3 (Kd.int .i64)) w A0_1 l0_1.length l0_1) (hc0_1 : l0_1.length ≤ c0_1) (h : galoisref23_Check.f k a0_0 l0_1 = some r) :
  Calls Tryz.prog 46 #[.agg #[.int .i64 a0_0, .slice A0_1 l0_1.length c0_1]] w fun e w' => e = .returned (.int .i64 r) ∧ Below w.heap.size w w' := by
 have hu := Tryz.underlying24
 have P0 := Aside0.mk hr0_1
 have L0 := Aside0.mk hc0_1
 unfold galoisref23_Check.f at h
 obtain ⟨t1, h1, h⟩ := Option.bind_eq_some_iff.1 h
 have E1 := Aside0.mk h1
 have X := Aside0.mk (blk_new w (.cells #[.int .i64 a0_0, .slice A0_1 l0_1.length c0_1] 24))
 have HB := Aside0.mk (show Below w.heap.size w (w.alloc (.cells #[.int .i64 a0_0, .slice A0_1 l0_1.length c0_1] 24)) from below_alloc (Below.refl _ _) _)
 have x00 := blk_cell X.out 0
 have x01 := blk_cell X.out 1
 have y00 := blk_frozen X.out 0
 have y01 := blk_frozen X.out 1
 clear hr0_1 hc0_1 h1
 by_cases c1 : t1 = 0
 ·subst c1
  rw [if_pos rfl] at h
  by_cases c2 : (l0_1.length : Int) > 32
  ·rw [if_pos c2] at h
   have d2 : decide (32 < (l0_1.length : Int)) = true := decide_eq_true c2
   have d3 : decide (32 < l0_1.length) = true := decide_eq_true (by omega)
   obtain rfl := Option.some.inj h
   go_enter Tryz.func46, Tryz.ntmps46
   go_wp2_with (go_at_call 90;(refine (galoisref22_Degree.calls a0_0 0 _ E1.out).mono ?_);rintro e w' ⟨rfl, nd, rfl⟩;(try first | exact ⟨rfl, _, World.drewN_drewN _ _ _⟩ | exact ⟨rfl, _, Eq.trans (World.drewN_drewN _ _ _) (congrArg (World.drewN _) (Nat.add_assoc _ _ _))⟩))
   go_ret
   exact ⟨rfl, (bel HB.out)⟩
  ·rw [if_neg c2] at h
   have d2 : decide (32 < (l0_1.length : Int)) = false := decide_eq_false c2
   have d3 : decide (32 < l0_1.length) = false := decide_eq_false (by omega)
   have H' := Aside0.mk h
   clear h
   go_enter Tryz.func46, Tryz.ntmps46
   go_wp2_with (go_at_call 90;(refine (galoisref22_Degree.calls a0_0 0 _ E1.out).mono ?_);rintro e w' ⟨rfl, nd, rfl⟩;(try first | exact ⟨rfl, _, World.drewN_drewN _ _ _⟩ | exact ⟨rfl, _, Eq.trans (World.drewN_drewN _ _ _) (congrArg (World.drewN _) (Nat.add_assoc _ _ _))⟩))
   go_loopg [4] k (fun kq v4 w' => ∃ x : Int, v4 = .int .i64 x ∧ Aside0 (galoisref23_Check.l0 kq x a0_0 l0_1 = some r) ∧ Aside0 (kq ≤ k) ∧ Aside0 (w'.heap[w.heap.size]? = some (.cells #[.int .i64 a0_0, .slice A0_1 l0_1.length c0_1] 24)) ∧ Aside0 (Below w.heap.size w w'))
   case atStart => exact ⟨0, rfl, H', ⟨Nat.le_refl _⟩, ⟨by simpa using X.out⟩, ⟨(bel HB.out)⟩⟩
   case round =>
    clear H' c2 d2 d3 x00 x01 y00 y01 X HB
    obtain ⟨x, rfl, HA, HK, X, HB⟩ := hrel
    cases gk with
    | zero => exact absurd HA.out (by simp [galoisref23_Check.l0])
    | succ k1 =>
     have H := HA.out
     simp only [galoisref23_Check.l0] at H
     have x00 := blk_cell X.out 0
     have x01 := blk_cell X.out 1
     have y00 := blk_frozen X.out 0
     have y01 := blk_frozen X.out 1
     by_cases c9 : x < (l0_1.length : Int)
     ·rw [if_pos c9] at H
      have d9 : decide (x < (l0_1.length : Int)) = true := decide_eq_true c9
      by_cases c10 : 0 ≤ x
      ·rw [if_pos c10] at H
       have d10 : decide (0 ≤ x) = true := decide_eq_true c10
       obtain ⟨t2, h2, H⟩ := Option.bind_eq_some_iff.1 H
       have E2 := Aside0.mk h2
       obtain ⟨ad, Ae, ce, e, hx, hl, hi⟩ := at_L1 P0.out x c10 c9
       cases e
       replace hx := (HB.out.cell (World.block_lt_of_cell? w _ hx)).trans hx
       have HR := Aside0.mk hi
       have HC := Aside0.mk hl
       clear hi hl h2
       replace c9 := eq_true c9
       replace c10 := eq_true c10
       by_cases c3 : t2 = 0
       ·subst c3
        rw [if_pos rfl] at H
        by_cases c4 : ((rd_L1 l0_1 x).length : Int) = a0_0
        ·rw [if_pos c4] at H
         have d4 : (((rd_L1 l0_1 x).length : Int) == a0_0) = true := beq_iff_eq.mpr c4
         have d5 : (((rd_L1 l0_1 x).length : Int) != a0_0) = false := bne_eq_false_iff_eq.mpr c4
         have H' := Aside0.mk H
         clear H c4
         go_wp2_with (go_at_call 91;(refine (galoisref22_Check.calls k1 Ae ce (rd_L1 l0_1 x) 0 _ ?s1 HC.out E2.out).mono ?_);(case s1 => first | exact Kd.C_below HR.out HB.out | exact Kd.C_drewN (Kd.C_below HR.out HB.out) _);rintro e w' ⟨rfl, nd, rfl⟩;(try first | exact ⟨rfl, _, World.drewN_drewN _ _ _⟩ | exact ⟨rfl, _, Eq.trans (World.drewN_drewN _ _ _) (congrArg (World.drewN _) (Nat.add_assoc _ _ _))⟩))
         first | (with_reducible show Handed _ _ _ _) | (repeat (go_quiet (fail);try go_wp2))
         go_roundg k1
         case measure => have := HK.out;omega
         case rel => exact ⟨_, rfl, H', ⟨by have := HK.out;omega⟩, ⟨by simpa using X.out⟩, ⟨(bel HB.out)⟩⟩
        ·rw [if_neg c4] at H
         have d4 : (((rd_L1 l0_1 x).length : Int) == a0_0) = false := beq_eq_false_iff_ne.mpr c4
         have d5 : (((rd_L1 l0_1 x).length : Int) != a0_0) = true := bne_iff_ne.mpr c4
         obtain rfl := Option.some.inj H
         go_wp2_with (go_at_call 91;(refine (galoisref22_Check.calls k1 Ae ce (rd_L1 l0_1 x) 0 _ ?s1 HC.out E2.out).mono ?_);(case s1 => first | exact Kd.C_below HR.out HB.out | exact Kd.C_drewN (Kd.C_below HR.out HB.out) _);rintro e w' ⟨rfl, nd, rfl⟩;(try first | exact ⟨rfl, _, World.drewN_drewN _ _ _⟩ | exact ⟨rfl, _, Eq.trans (World.drewN_drewN _ _ _) (congrArg (World.drewN _) (Nat.add_assoc _ _ _))⟩))
         first | (with_reducible show Handed _ _ _ _) | (repeat (go_quiet (fail);try go_wp2))
         go_ret
         exact ⟨rfl, (bel HB.out)⟩
       ·rw [if_neg c3] at H
        obtain rfl := Option.some.inj H
        have d4 : (t2 == 0) = false := beq_eq_false_iff_ne.mpr c3
        have d5 : (t2 != 0) = true := bne_iff_ne.mpr c3
        go_wp2_with (go_at_call 91;(refine (galoisref22_Check.calls k1 Ae ce (rd_L1 l0_1 x) t2 _ ?s1 HC.out E2.out).mono ?_);(case s1 => first | exact Kd.C_below HR.out HB.out | exact Kd.C_drewN (Kd.C_below HR.out HB.out) _);rintro e w' ⟨rfl, nd, rfl⟩;(try first | exact ⟨rfl, _, World.drewN_drewN _ _ _⟩ | exact ⟨rfl, _, Eq.trans (World.drewN_drewN _ _ _) (congrArg (World.drewN _) (Nat.add_assoc _ _ _))⟩))
        go_ret
        exact ⟨rfl, (bel HB.out)⟩
      ·rw [if_neg c10] at H
       exact absurd H (by simp)
     ·rw [if_neg c9] at H
      have d9 : decide (x < (l0_1.length : Int)) = false := decide_eq_false c9
      obtain rfl := Option.some.inj H
      go_wp2
      go_ret
      exact ⟨rfl, (bel HB.out)⟩
 ·rw [if_neg c1] at h
  have d2 : (t1 == 0) = false := beq_eq_false_iff_ne.mpr c1
  have d3 : (t1 != 0) = true := bne_iff_ne.mpr c1
  obtain rfl := Option.some.inj h
  go_enter Tryz.func46, Tryz.ntmps46
  go_wp2_with (go_at_call 90;(refine (galoisref22_Degree.calls a0_0 t1 _ E1.out).mono ?_);rintro e w' ⟨rfl, nd, rfl⟩;(try first | exact ⟨rfl, _, World.drewN_drewN _ _ _⟩ | exact ⟨rfl, _, Eq.trans (World.drewN_drewN _ _ _) (congrArg (World.drewN _) (Nat.add_assoc _ _ _))⟩))
  go_ret
  exact ⟨rfl, (bel HB.out)⟩
end Go.Proofs.YtmbldnoepjmhhaaGreat.PRf
