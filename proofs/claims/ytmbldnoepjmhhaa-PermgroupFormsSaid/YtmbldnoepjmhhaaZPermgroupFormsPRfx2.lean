-- Printed.
import Derived.Test.YtmbldnoepjmhhaaZPermgroupFormsMg0
import Derived.Test.YtmbldnoepjmhhaaZPermgroupFormsPRfx0
import Derived.Test.YtmbldnoepjmhhaaZPermgroupFormsPRfx1
namespace Go.Proofs.Ytmbldnoepjmhhaa.PRf
open Go.RowKit Go.Proofs.YtmbldnoepjmhhaaW.PrintWords Go.Proofs.YtmbldnoepjmhhaaW.PrintLast Go.Proofs.YtmbldnoepjmhhaaW.PrintMore Go.Proofs.Ytmbldnoepjmhhaa.PAll
attribute [local go_sem] max2_int min2_int max_two min_two max_three min_three max_four min_four
set_option linter.unusedVariables false
set_option linter.unusedSimpArgs false
def galoisref22_Mul.l0 : Nat → List Int → List Int → List Int → Int → Option (List Int)
 | 0, _, _, _, _ => none
 | k + 1, x0, x1, x5, x6 => if x6 < (x0.length : Int) then (if 0 ≤ x6 then (if 0 ≤ (rd x0 x6) then (if (rd x0 x6) < (x1.length : Int) then (if x6 < (x5.length : Int) then (galoisref22_Mul.l0 k x0 x1 (x5.set (x6 : Int).toNat (rd x1 (rd x0 x6))) (wrap64 (x6 + 1))) else (none)) else (none)) else (none)) else (none)) else (some x5)
def galoisref22_Mul.f (k : Nat) (l0 : List Int) (l1 : List Int) : Option (List Int) := if 0 ≤ (l0.length : Int) then (if ((l0.length : Int) : Int).toNat ≤ 35184372088832 then (galoisref22_Mul.l0 k l0 l1 (List.replicate ((l0.length : Int) : Int).toNat 0) 0) else (none)) else (none)
theorem galoisref22_Mul.mono_l : ∀ k, (∀ y0 y1 y2 y3, LeO (galoisref22_Mul.l0 k y0 y1 y2 y3) (galoisref22_Mul.l0 (k + 1) y0 y1 y2 y3))
 | 0 => fun _ _ _ _ r h => by simp [galoisref22_Mul.l0] at h
 | k + 1 => by
  have ih0 := galoisref22_Mul.mono_l k
  ·intro y0 y1 y2 y3
   unfold galoisref22_Mul.l0
   repeat' first
   | (with_reducible exact ih0 _ _ _ _)
   | (with_reducible exact LeO.refl _)
   | (with_reducible exact LeO.none _)
   | (with_reducible refine LeO.ite ?_ ?_)
   | (with_reducible refine LeO.bind ?_ (fun _ => ?_))
   | exact ih0 _ _ _ _
   | exact LeO.none _
   | refine LeO.ite ?_ ?_
   | refine LeO.bind ?_ (fun _ => ?_)
theorem galoisref22_Mul.mono : ∀ a0 a1 k, LeO (galoisref22_Mul.f k a0 a1) (galoisref22_Mul.f (k + 1) a0 a1) := by
 intro a0 a1 k
 have ih0 := galoisref22_Mul.mono_l k
 unfold galoisref22_Mul.f
 repeat' first
   | (with_reducible exact ih0 _ _ _ _)
   | (with_reducible exact LeO.refl _)
   | (with_reducible exact LeO.none _)
   | (with_reducible refine LeO.ite ?_ ?_)
   | (with_reducible refine LeO.bind ?_ (fun _ => ?_))
   | exact ih0 _ _ _ _
   | exact LeO.none _
   | refine LeO.ite ?_ ?_
   | refine LeO.bind ?_ (fun _ => ?_)
set_option maxHeartbeats 8000000 in
set_option maxRecDepth 100000 in
theorem galoisref22_Mul.calls (k : Nat) (A0 : Option Addr) (c0 : Nat) (l0 : List Int) (A1 : Option Addr) (c1 : Nat) (l1 : List Int) (r : List Int) (w : World) (hr0 : Kd.C (Kd.int .i64) w A0 l0.length l0) (hc0 : l0.length ≤ c0) (hr1 : Kd.C (Kd.int .i64) w A1 l1.length l1) (hc1 : l1.length ≤ c1) (h : galoisref22_Mul.f k l0 l1 = some r) :
  Calls Try.prog 43 #[.slice A0 l0.length c0, .slice A1 l1.length c1] w fun e w' => ∃ v0_ : Value, e = .returned (v0_) ∧ Kd.R (Kd.int .i64) 3 w' w.heap.size (fun _ => True) v0_ r ∧ Below w.heap.size w w' := by
 have HR0 := Aside0.mk hr0
 have HC0 := Aside0.mk hc0
 clear hr0 hc0
 have HR1 := Aside0.mk hr1
 have HC1 := Aside0.mk hc1
 clear hr1 hc1
 have HB := Aside0.mk (Below.refl w.heap.size w)
 have H : (if 0 ≤ (l0.length : Int) then (if ((l0.length : Int) : Int).toNat ≤ 35184372088832 then (galoisref22_Mul.l0 k l0 l1 (List.replicate ((l0.length : Int) : Int).toNat 0) 0) else (none)) else (none)) = some r := h
 clear h
 by_cases c3 : 0 ≤ (l0.length : Int)
 ·rw [if_pos c3] at H
  have c3b0 := eq_true c3
  have c3b1 : decide (0 ≤ (l0.length : Int)) = true := decide_eq_true c3
  clear c3
  by_cases c4 : ((l0.length : Int) : Int).toNat ≤ 35184372088832
  ·rw [if_pos c4] at H
   have c4b0 := eq_true c4
   have c4b1 : decide (((l0.length : Int) : Int).toNat ≤ 35184372088832) = true := decide_eq_true c4
   clear c4
   obtain ⟨y113, hy113⟩ : ∃ y_ : List Int, y_ = (List.replicate ((l0.length : Int) : Int).toNat 0) := ⟨_, rfl⟩
   replace H : (galoisref22_Mul.l0 k l0 l1 y113 0) = some r := by first | (rw [hy113];with_reducible exact H) | (have H2_ := (Option.bind_some _ _).symm.trans H;rw [hy113];with_reducible exact H2_) | (have H2_ := (Option.bind_some _ _).symm.trans H;with_reducible exact H2_) | with_reducible exact H | (rw [hy113];exact H) | exact H
   have Ny113 := Aside0.mk hy113
   clear hy113
   have H' := Aside0.mk H
   clear H
   go_enter Try.func43, Try.ntmps43
   go_wp2_with (first|((with_reducible refine gate_dst (N := 9) rfl ?_);refine Kd.R_make (Kd.int .i64) _ 3 rfl (N := 9) rfl 49 _ _ rfl (l0.length : Int) rfl rfl Try.underlying49 (.int .i64 0) 8 info3 rfl (by decide) (by omega) 0 (ok := fun _ => True) (okp := fun _ => True) rfl (fun _ hk => hk) trivial (of_decide_eq_true (by assumption)) (Nat.le_trans (Nat.mul_le_mul_right _ (of_decide_eq_true (by assumption) : (l0.length : Int).toNat ≤ 35184372088832)) (by omega)) (Below.refl _ _) (Nat.le_refl _) ?_;intro v114 w5 ho6 hb hg_ hnew_;clear hg_ hnew_;(first|rw [← Ny113.out] at ho6 | (simp only [Int.reduceToNat] at ho6;rw [← Ny113.out] at ho6));have n0_ := Aside0.mk (Kd.R_lower ho6 (below_size (bel HB.out)));have n1_ := Aside0.mk (below_step (bel HB.out) hb);clear HB;have HO115 := n0_;have HB := n1_;clear n0_ n1_;clear hb ho6))
   go_loopg [6] k (fun kq v6 w' => ∃ (x5_1 : List Int) (x6_1 : Int), v6 = .int .i64 x6_1 ∧ Aside0 (galoisref22_Mul.l0 kq l0 l1 x5_1 x6_1 = some r) ∧ Aside0 (kq ≤ k) ∧ Aside0 (Kd.R (Kd.int .i64) 3 w' w.heap.size (fun _ => True) v114 x5_1) ∧ Aside0 (Below w.heap.size w w'))
   case atStart => exact ⟨(y113), (0), (by first | rfl | (simp;done) | (simp [*];done)), H', ⟨Nat.le_refl _⟩, ⟨Rst HO115.out⟩, ⟨bel HB.out⟩⟩
   case round =>
    clear H'
    try clear c1
    try clear p2
    try clear c3
    try clear c3b0
    try clear c3b1
    try clear c4
    try clear c4b0
    try clear c4b1
    obtain ⟨x5_1, x6_1, rfl, HA, HK1, HO_5, HB⟩ := hrel
    cases gk with
    | zero => exact absurd HA.out (by simp [galoisref22_Mul.l0])
    | succ k1 =>
     have H := HA.out
     clear HA
     simp only [galoisref22_Mul.l0] at H
     by_cases c7 : x6_1 < (l0.length : Int)
     ·rw [if_pos c7] at H
      have c7b0 : decide (x6_1 < (l0.length : Int)) = true := decide_eq_true c7
      clear c7
      by_cases c8 : 0 ≤ x6_1
      ·rw [if_pos c8] at H
       have c8b0 : decide (0 ≤ x6_1) = true := decide_eq_true c8
       clear c8
       by_cases c9 : 0 ≤ (rd l0 x6_1)
       ·rw [if_pos c9] at H
        have c9b0 : decide (0 ≤ (rd l0 x6_1)) = true := decide_eq_true c9
        clear c9
        by_cases c10 : (rd l0 x6_1) < (l1.length : Int)
        ·rw [if_pos c10] at H
         have c10b0 : decide ((rd l0 x6_1) < (l1.length : Int)) = true := decide_eq_true c10
         clear c10
         by_cases c11 : x6_1 < (x5_1.length : Int)
         ·rw [if_pos c11] at H
          have c11b0 : decide (x6_1 < (x5_1.length : Int)) = true := decide_eq_true c11
          clear c11
          obtain ⟨y118, hy118⟩ : ∃ y_ : List Int, y_ = (x5_1.set (x6_1 : Int).toNat (rd l1 (rd l0 x6_1))) := ⟨_, rfl⟩
          replace H : (galoisref22_Mul.l0 k1 l0 l1 y118 (wrap64 (x6_1 + 1))) = some r := by first | (rw [hy118];with_reducible exact H) | (have H2_ := (Option.bind_some _ _).symm.trans H;rw [hy118];with_reducible exact H2_) | (have H2_ := (Option.bind_some _ _).symm.trans H;with_reducible exact H2_) | with_reducible exact H | (rw [hy118];exact H) | exact H
          have Ny118 := Aside0.mk hy118
          clear hy118
          have H' := Aside0.mk H
          clear H
          have p116 : 0 ≤ (x6_1 : Int) := of_decide_eq_true (by assumption)
          have q116 : x6_1 < (l0.length : Int) := of_decide_eq_true (by assumption)
          obtain ⟨ad116, e116, hx116_0⟩ := Kd.at_int HR0.out x6_1 p116 q116
          cases e116
          try (replace hx116_0 := (HB.out.cell (World.block_lt_of_cell? w _ hx116_0)).trans hx116_0)
          replace p116 := eq_true p116
          replace q116 := eq_true q116
          have p117 : 0 ≤ ((rd l0 x6_1) : Int) := of_decide_eq_true (by assumption)
          have q117 : (rd l0 x6_1) < (l1.length : Int) := of_decide_eq_true (by assumption)
          obtain ⟨ad117, e117, hx117_0⟩ := Kd.at_int HR1.out (rd l0 x6_1) p117 q117
          cases e117
          try (replace hx117_0 := (HB.out.cell (World.block_lt_of_cell? w _ hx117_0)).trans hx117_0)
          replace p117 := eq_true p117
          replace q117 := eq_true q117
          have p12 : 0 ≤ (x6_1 : Int) := of_decide_eq_true (by assumption)
          have q12 : (x6_1 : Int) < ((x5_1.length : Int) : Int) := of_decide_eq_true (by assumption)
          obtain ⟨go12, co12, eo12, gb12, gl12, cl12, HG12⟩ := Kd.R_form HO_5.out (by omega)
          (first|cases eo12 | (injection eo12 with ea_ en_ ec_;(first|subst ea_ | (injection ea_ with ea_;subst ea_));subst ec_;clear en_))
          have GB12 := Aside0.mk gb12
          have GG12 := Aside0.mk HG12
          clear gb12 gl12 HG12
          obtain ⟨hx12_0, hf12_0⟩ := Kd.R_celln 0 HO_5.out (x6_1 : Int) p12 q12
          replace p12 := eq_true p12
          replace q12 := eq_true q12
          have HP13 := Kd.R_putg HO_5.out (x6_1 : Int) (rd l1 (rd l0 x6_1))
          go_wp2_with (first|((with_reducible refine gate_store (t := 3) (p := 25) rfl ?_);refine store_event (t := 3) (p := 25) (v := ?vo_w14) (w1 := (wr.setCell ⟨go12, (x6_1 : Int).toNat, none⟩ (.int .i64 (rd l1 (rd l0 x6_1))))) ?hg ?ho ?hn ?hr ?_;(case ho => rfl);(case hg => rfl);(case hn => rfl);(case hr => first | (go_simp;done) | (go_simp;rfl));intro w14 hw;have hg : wr.grownBy w14 (some go12) := (by rw [hw];exact HP13.2);have hp_ : Kd.R (Kd.int .i64) 3 w14 w.heap.size (fun _ => True) (.slice (some ⟨go12, 0, none⟩) x5_1.length co12) y118 := (by rw [hw, Ny118.out];exact HP13.1);clear HP13;have n0_ := Aside0.mk (hp_);have n1_ := Aside0.mk ((by rw [hw];exact below_set (HB.out) GB12.out : Below w.heap.size w w14));clear HO_5;clear HB;have HO_5 := n0_;have HB := n1_;clear n0_ n1_;clear hg hw hp_))
          go_roundg k1
          case measure => have := HK1.out;omega
          case rel => exact ⟨(y118), (wrap64 (x6_1 + 1)), (by first | rfl | (simp;done) | (simp [*];done)), H', ⟨by have := HK1.out;omega⟩, ⟨Rst HO_5.out⟩, ⟨bel HB.out⟩⟩
         ·rw [if_neg c11] at H
          exact absurd H (by simp)
        ·rw [if_neg c10] at H
         exact absurd H (by simp)
       ·rw [if_neg c9] at H
        exact absurd H (by simp)
      ·rw [if_neg c8] at H
       exact absurd H (by simp)
     ·rw [if_neg c7] at H
      have c7b0 : decide (x6_1 < (l0.length : Int)) = false := decide_eq_false c7
      clear c7
      obtain rfl := Option.some.inj H
      go_wp2
      go_ret
      exact ⟨_, by first | rfl | (simp [errW_none, errW_some] <;> rfl) | (simp [*, errW_none, errW_some] <;> rfl), Rst HO_5.out, bel HB.out⟩
  ·rw [if_neg c4] at H
   exact absurd H (by simp)
 ·rw [if_neg c3] at H
  exact absurd H (by simp)
def galoisref22_Identity.l0 : Nat → Int → List Int → Int → Option (List Int)
 | 0, _, _, _ => none
 | k + 1, x0, x3, x4 => if x4 < x0 then (if 0 ≤ x4 then (if x4 < (x3.length : Int) then (galoisref22_Identity.l0 k x0 (x3.set (x4 : Int).toNat x4) (wrap64 (x4 + 1))) else (none)) else (none)) else (some x3)
def galoisref22_Identity.f (k : Nat) (a0 : Int) : Option (List Int) := if 0 ≤ a0 then (if (a0 : Int).toNat ≤ 35184372088832 then (galoisref22_Identity.l0 k a0 (List.replicate (a0 : Int).toNat 0) 0) else (none)) else (none)
theorem galoisref22_Identity.mono_l : ∀ k, (∀ y0 y1 y2, LeO (galoisref22_Identity.l0 k y0 y1 y2) (galoisref22_Identity.l0 (k + 1) y0 y1 y2))
 | 0 => fun _ _ _ r h => by simp [galoisref22_Identity.l0] at h
 | k + 1 => by
  have ih0 := galoisref22_Identity.mono_l k
  ·intro y0 y1 y2
   unfold galoisref22_Identity.l0
   repeat' first
   | (with_reducible exact ih0 _ _ _)
   | (with_reducible exact LeO.refl _)
   | (with_reducible exact LeO.none _)
   | (with_reducible refine LeO.ite ?_ ?_)
   | (with_reducible refine LeO.bind ?_ (fun _ => ?_))
   | exact ih0 _ _ _
   | exact LeO.none _
   | refine LeO.ite ?_ ?_
   | refine LeO.bind ?_ (fun _ => ?_)
theorem galoisref22_Identity.mono : ∀ a0 k, LeO (galoisref22_Identity.f k a0) (galoisref22_Identity.f (k + 1) a0) := by
 intro a0 k
 have ih0 := galoisref22_Identity.mono_l k
 unfold galoisref22_Identity.f
 repeat' first
   | (with_reducible exact ih0 _ _ _)
   | (with_reducible exact LeO.refl _)
   | (with_reducible exact LeO.none _)
   | (with_reducible refine LeO.ite ?_ ?_)
   | (with_reducible refine LeO.bind ?_ (fun _ => ?_))
   | exact ih0 _ _ _
   | exact LeO.none _
   | refine LeO.ite ?_ ?_
   | refine LeO.bind ?_ (fun _ => ?_)
set_option maxHeartbeats 8000000 in
set_option maxRecDepth 100000 in
theorem galoisref22_Identity.calls (k : Nat) (a0 : Int) (r : List Int) (w : World) (h : galoisref22_Identity.f k a0 = some r) :
  Calls Try.prog 25 #[.int .i64 a0] w fun e w' => ∃ v0_ : Value, e = .returned (v0_) ∧ Kd.R (Kd.int .i64) 3 w' w.heap.size (fun _ => True) v0_ r ∧ Below w.heap.size w w' := by
 have HB := Aside0.mk (Below.refl w.heap.size w)
 have H : (if 0 ≤ a0 then (if (a0 : Int).toNat ≤ 35184372088832 then (galoisref22_Identity.l0 k a0 (List.replicate (a0 : Int).toNat 0) 0) else (none)) else (none)) = some r := h
 clear h
 by_cases c2 : 0 ≤ a0
 ·rw [if_pos c2] at H
  have c2b0 := eq_true c2
  have c2b1 : decide (0 ≤ a0) = true := decide_eq_true c2
  clear c2
  by_cases c3 : (a0 : Int).toNat ≤ 35184372088832
  ·rw [if_pos c3] at H
   have c3b0 := eq_true c3
   have c3b1 : decide ((a0 : Int).toNat ≤ 35184372088832) = true := decide_eq_true c3
   clear c3
   obtain ⟨y119, hy119⟩ : ∃ y_ : List Int, y_ = (List.replicate (a0 : Int).toNat 0) := ⟨_, rfl⟩
   replace H : (galoisref22_Identity.l0 k a0 y119 0) = some r := by first | (rw [hy119];with_reducible exact H) | (have H2_ := (Option.bind_some _ _).symm.trans H;rw [hy119];with_reducible exact H2_) | (have H2_ := (Option.bind_some _ _).symm.trans H;with_reducible exact H2_) | with_reducible exact H | (rw [hy119];exact H) | exact H
   have Ny119 := Aside0.mk hy119
   clear hy119
   have H' := Aside0.mk H
   clear H
   go_enter Try.func25, Try.ntmps25
   go_wp2_with (first|((with_reducible refine gate_dst (N := 6) rfl ?_);refine Kd.R_make (Kd.int .i64) _ 3 rfl (N := 6) rfl 49 _ _ rfl a0 rfl rfl Try.underlying49 (.int .i64 0) 8 info3 rfl (by decide) (by omega) 0 (ok := fun _ => True) (okp := fun _ => True) rfl (fun _ hk => hk) trivial (of_decide_eq_true (by assumption)) (Nat.le_trans (Nat.mul_le_mul_right _ (of_decide_eq_true (by assumption) : a0.toNat ≤ 35184372088832)) (by omega)) (Below.refl _ _) (Nat.le_refl _) ?_;intro v120 w4 ho5 hb hg_ hnew_;clear hg_ hnew_;(first|rw [← Ny119.out] at ho5 | (simp only [Int.reduceToNat] at ho5;rw [← Ny119.out] at ho5));have n0_ := Aside0.mk (Kd.R_lower ho5 (below_size (bel HB.out)));have n1_ := Aside0.mk (below_step (bel HB.out) hb);clear HB;have HO121 := n0_;have HB := n1_;clear n0_ n1_;clear hb ho5))
   go_loopg [4] k (fun kq v4 w' => ∃ (x3_1 : List Int) (x4_1 : Int), v4 = .int .i64 x4_1 ∧ Aside0 (galoisref22_Identity.l0 kq a0 x3_1 x4_1 = some r) ∧ Aside0 (kq ≤ k) ∧ Aside0 (Kd.R (Kd.int .i64) 3 w' w.heap.size (fun _ => True) v120 x3_1) ∧ Aside0 (Below w.heap.size w w'))
   case atStart => exact ⟨(y119), (0), (by first | rfl | (simp;done) | (simp [*];done)), H', ⟨Nat.le_refl _⟩, ⟨Rst HO121.out⟩, ⟨bel HB.out⟩⟩
   case round =>
    clear H'
    try clear c2
    try clear c2b0
    try clear c2b1
    try clear p2
    try clear c3
    try clear c3b0
    try clear c3b1
    obtain ⟨x3_1, x4_1, rfl, HA, HK1, HO_3, HB⟩ := hrel
    cases gk with
    | zero => exact absurd HA.out (by simp [galoisref22_Identity.l0])
    | succ k1 =>
     have H := HA.out
     clear HA
     simp only [galoisref22_Identity.l0] at H
     by_cases c6 : x4_1 < a0
     ·rw [if_pos c6] at H
      have c6b0 : decide (x4_1 < a0) = true := decide_eq_true c6
      clear c6
      by_cases c7 : 0 ≤ x4_1
      ·rw [if_pos c7] at H
       have c7b0 : decide (0 ≤ x4_1) = true := decide_eq_true c7
       clear c7
       by_cases c8 : x4_1 < (x3_1.length : Int)
       ·rw [if_pos c8] at H
        have c8b0 : decide (x4_1 < (x3_1.length : Int)) = true := decide_eq_true c8
        clear c8
        obtain ⟨y122, hy122⟩ : ∃ y_ : List Int, y_ = (x3_1.set (x4_1 : Int).toNat x4_1) := ⟨_, rfl⟩
        replace H : (galoisref22_Identity.l0 k1 a0 y122 (wrap64 (x4_1 + 1))) = some r := by first | (rw [hy122];with_reducible exact H) | (have H2_ := (Option.bind_some _ _).symm.trans H;rw [hy122];with_reducible exact H2_) | (have H2_ := (Option.bind_some _ _).symm.trans H;with_reducible exact H2_) | with_reducible exact H | (rw [hy122];exact H) | exact H
        have Ny122 := Aside0.mk hy122
        clear hy122
        have H' := Aside0.mk H
        clear H
        have p9 : 0 ≤ (x4_1 : Int) := of_decide_eq_true (by assumption)
        have q9 : (x4_1 : Int) < ((x3_1.length : Int) : Int) := of_decide_eq_true (by assumption)
        obtain ⟨go9, co9, eo9, gb9, gl9, cl9, HG9⟩ := Kd.R_form HO_3.out (by omega)
        (first|cases eo9 | (injection eo9 with ea_ en_ ec_;(first|subst ea_ | (injection ea_ with ea_;subst ea_));subst ec_;clear en_))
        have GB9 := Aside0.mk gb9
        have GG9 := Aside0.mk HG9
        clear gb9 gl9 HG9
        obtain ⟨hx9_0, hf9_0⟩ := Kd.R_celln 0 HO_3.out (x4_1 : Int) p9 q9
        replace p9 := eq_true p9
        replace q9 := eq_true q9
        have HP10 := Kd.R_putg HO_3.out (x4_1 : Int) x4_1
        go_wp2_with (first|((with_reducible refine gate_store (t := 3) (p := 15) rfl ?_);refine store_event (t := 3) (p := 15) (v := ?vo_w11) (w1 := (wr.setCell ⟨go9, (x4_1 : Int).toNat, none⟩ (.int .i64 x4_1))) ?hg ?ho ?hn ?hr ?_;(case ho => rfl);(case hg => rfl);(case hn => rfl);(case hr => first | (go_simp;done) | (go_simp;rfl));intro w11 hw;have hg : wr.grownBy w11 (some go9) := (by rw [hw];exact HP10.2);have hp_ : Kd.R (Kd.int .i64) 3 w11 w.heap.size (fun _ => True) (.slice (some ⟨go9, 0, none⟩) x3_1.length co9) y122 := (by rw [hw, Ny122.out];exact HP10.1);clear HP10;have n0_ := Aside0.mk (hp_);have n1_ := Aside0.mk ((by rw [hw];exact below_set (HB.out) GB9.out : Below w.heap.size w w11));clear HO_3;clear HB;have HO_3 := n0_;have HB := n1_;clear n0_ n1_;clear hg hw hp_))
        go_roundg k1
        case measure => have := HK1.out;omega
        case rel => exact ⟨(y122), (wrap64 (x4_1 + 1)), (by first | rfl | (simp;done) | (simp [*];done)), H', ⟨by have := HK1.out;omega⟩, ⟨Rst HO_3.out⟩, ⟨bel HB.out⟩⟩
       ·rw [if_neg c8] at H
        exact absurd H (by simp)
      ·rw [if_neg c7] at H
       exact absurd H (by simp)
     ·rw [if_neg c6] at H
      have c6b0 : decide (x4_1 < a0) = false := decide_eq_false c6
      clear c6
      obtain rfl := Option.some.inj H
      go_wp2
      go_ret
      exact ⟨_, by first | rfl | (simp [errW_none, errW_some] <;> rfl) | (simp [*, errW_none, errW_some] <;> rfl), Rst HO_3.out, bel HB.out⟩
  ·rw [if_neg c3] at H
   exact absurd H (by simp)
 ·rw [if_neg c2] at H
  exact absurd H (by simp)
def galoisref22_Compare.l0 : Nat → List Int → List Int → Int → Option (Int)
 | 0, _, _, _ => none
 | k + 1, x0, x1, x5 => if x5 < (x0.length : Int) then (if 0 ≤ x5 then (if x5 < (x1.length : Int) then (if (rd x0 x5) < (rd x1 x5) then (some (-1)) else (if (rd x0 x5) > (rd x1 x5) then (some 1) else (galoisref22_Compare.l0 k x0 x1 (wrap64 (x5 + 1))))) else (none)) else (none)) else (some 0)
def galoisref22_Compare.f (k : Nat) (l0 : List Int) (l1 : List Int) : Option (Int) := galoisref22_Compare.l0 k l0 l1 0
theorem galoisref22_Compare.mono_l : ∀ k, (∀ y0 y1 y2, LeO (galoisref22_Compare.l0 k y0 y1 y2) (galoisref22_Compare.l0 (k + 1) y0 y1 y2))
 | 0 => fun _ _ _ r h => by simp [galoisref22_Compare.l0] at h
 | k + 1 => by
  have ih0 := galoisref22_Compare.mono_l k
  ·intro y0 y1 y2
   unfold galoisref22_Compare.l0
   repeat' first
   | (with_reducible exact ih0 _ _ _)
   | (with_reducible exact LeO.refl _)
   | (with_reducible exact LeO.none _)
   | (with_reducible refine LeO.ite ?_ ?_)
   | (with_reducible refine LeO.bind ?_ (fun _ => ?_))
   | exact ih0 _ _ _
   | exact LeO.none _
   | refine LeO.ite ?_ ?_
   | refine LeO.bind ?_ (fun _ => ?_)
theorem galoisref22_Compare.mono : ∀ a0 a1 k, LeO (galoisref22_Compare.f k a0 a1) (galoisref22_Compare.f (k + 1) a0 a1) := by
 intro a0 a1 k
 have ih0 := galoisref22_Compare.mono_l k
 unfold galoisref22_Compare.f
 repeat' first
   | (with_reducible exact ih0 _ _ _)
   | (with_reducible exact LeO.refl _)
   | (with_reducible exact LeO.none _)
   | (with_reducible refine LeO.ite ?_ ?_)
   | (with_reducible refine LeO.bind ?_ (fun _ => ?_))
   | exact ih0 _ _ _
   | exact LeO.none _
   | refine LeO.ite ?_ ?_
   | refine LeO.bind ?_ (fun _ => ?_)
set_option maxHeartbeats 8000000 in
set_option maxRecDepth 100000 in
theorem galoisref22_Compare.calls (k : Nat) (A0 : Option Addr) (c0 : Nat) (l0 : List Int) (A1 : Option Addr) (c1 : Nat) (l1 : List Int) (r : Int) (w : World) (hr0 : Kd.C (Kd.int .i64) w A0 l0.length l0) (hc0 : l0.length ≤ c0) (hr1 : Kd.C (Kd.int .i64) w A1 l1.length l1) (hc1 : l1.length ≤ c1) (h : galoisref22_Compare.f k l0 l1 = some r) :
  Calls Try.prog 59 #[.slice A0 l0.length c0, .slice A1 l1.length c1] w fun e w' => e = .returned (.int .i64 r) ∧ Drawn0 w w' := by
 have HR0 := Aside0.mk hr0
 have HC0 := Aside0.mk hc0
 clear hr0 hc0
 have HR1 := Aside0.mk hr1
 have HC1 := Aside0.mk hc1
 clear hr1 hc1
 have H : (galoisref22_Compare.l0 k l0 l1 0) = some r := h
 clear h
 have H' := Aside0.mk H
 clear H
 go_enter Try.func59, Try.ntmps59
 go_wp2
 repeat (go_quiet (fail);try go_wp2)
 go_loopg [5] k (fun kq v5 w' => ∃ (x5_1 : Int), v5 = .int .i64 x5_1 ∧ Aside0 (galoisref22_Compare.l0 kq l0 l1 x5_1 = some r) ∧ Aside0 (kq ≤ k) ∧ Drawn0 w w')
 case atStart => exact ⟨(0), (by first | rfl | (simp;done) | (simp [*];done)), H', ⟨Nat.le_refl _⟩, by repeat (first|exact Drawn0.refl _ | apply Drawn0.step)⟩
 case round =>
  clear H'
  try clear c1
  try clear p2
  obtain ⟨x5_1, rfl, HA, HK1, ⟨m1, rfl⟩⟩ := hrel
  cases gk with
  | zero => exact absurd HA.out (by simp [galoisref22_Compare.l0])
  | succ k1 =>
   have H := HA.out
   clear HA
   simp only [galoisref22_Compare.l0] at H
   by_cases c3 : x5_1 < (l0.length : Int)
   ·rw [if_pos c3] at H
    have c3b0 : decide (x5_1 < (l0.length : Int)) = true := decide_eq_true c3
    clear c3
    by_cases c4 : 0 ≤ x5_1
    ·rw [if_pos c4] at H
     have c4b0 : decide (0 ≤ x5_1) = true := decide_eq_true c4
     clear c4
     by_cases c5 : x5_1 < (l1.length : Int)
     ·rw [if_pos c5] at H
      have c5b0 : decide (x5_1 < (l1.length : Int)) = true := decide_eq_true c5
      clear c5
      by_cases c6 : (rd l0 x5_1) < (rd l1 x5_1)
      ·rw [if_pos c6] at H
       have c6b0 : decide ((rd l0 x5_1) < (rd l1 x5_1)) = true := decide_eq_true c6
       clear c6
       obtain rfl := Option.some.inj H
       have p137 : 0 ≤ (x5_1 : Int) := of_decide_eq_true (by assumption)
       have q137 : x5_1 < (l0.length : Int) := of_decide_eq_true (by assumption)
       obtain ⟨ad137, e137, hx137_0⟩ := Kd.at_int HR0.out x5_1 p137 q137
       cases e137
       replace p137 := eq_true p137
       replace q137 := eq_true q137
       have p138 : 0 ≤ (x5_1 : Int) := of_decide_eq_true (by assumption)
       have q138 : x5_1 < (l1.length : Int) := of_decide_eq_true (by assumption)
       obtain ⟨ad138, e138, hx138_0⟩ := Kd.at_int HR1.out x5_1 p138 q138
       cases e138
       replace p138 := eq_true p138
       replace q138 := eq_true q138
       go_wp2
       repeat (go_quiet (fail);try go_wp2)
       go_ret
       exact ⟨by first | rfl | (simp;done) | (simp [*];done), by repeat (first|exact Drawn0.refl _ | apply Drawn0.step)⟩
      ·rw [if_neg c6] at H
       have c6b0 : decide ((rd l0 x5_1) < (rd l1 x5_1)) = false := decide_eq_false c6
       clear c6
       by_cases c7 : (rd l0 x5_1) > (rd l1 x5_1)
       ·rw [if_pos c7] at H
        have c7b0 : decide ((rd l1 x5_1) < (rd l0 x5_1)) = true := decide_eq_true c7
        clear c7
        obtain rfl := Option.some.inj H
        have p137 : 0 ≤ (x5_1 : Int) := of_decide_eq_true (by assumption)
        have q137 : x5_1 < (l0.length : Int) := of_decide_eq_true (by assumption)
        obtain ⟨ad137, e137, hx137_0⟩ := Kd.at_int HR0.out x5_1 p137 q137
        cases e137
        replace p137 := eq_true p137
        replace q137 := eq_true q137
        have p138 : 0 ≤ (x5_1 : Int) := of_decide_eq_true (by assumption)
        have q138 : x5_1 < (l1.length : Int) := of_decide_eq_true (by assumption)
        obtain ⟨ad138, e138, hx138_0⟩ := Kd.at_int HR1.out x5_1 p138 q138
        cases e138
        replace p138 := eq_true p138
        replace q138 := eq_true q138
        have p139 : 0 ≤ (x5_1 : Int) := of_decide_eq_true (by assumption)
        have q139 : x5_1 < (l0.length : Int) := of_decide_eq_true (by assumption)
        obtain ⟨ad139, e139, hx139_0⟩ := Kd.at_int HR0.out x5_1 p139 q139
        obtain rfl : ad137 = ad139 := (by injection e139)
        replace p139 := eq_true p139
        replace q139 := eq_true q139
        have p140 : 0 ≤ (x5_1 : Int) := of_decide_eq_true (by assumption)
        have q140 : x5_1 < (l1.length : Int) := of_decide_eq_true (by assumption)
        obtain ⟨ad140, e140, hx140_0⟩ := Kd.at_int HR1.out x5_1 p140 q140
        obtain rfl : ad138 = ad140 := (by injection e140)
        replace p140 := eq_true p140
        replace q140 := eq_true q140
        go_wp2
        repeat (go_quiet (fail);try go_wp2)
        go_ret
        exact ⟨by first | rfl | (simp;done) | (simp [*];done), by repeat (first|exact Drawn0.refl _ | apply Drawn0.step)⟩
       ·rw [if_neg c7] at H
        have c7b0 : decide ((rd l1 x5_1) < (rd l0 x5_1)) = false := decide_eq_false c7
        clear c7
        have H' := Aside0.mk H
        clear H
        have p137 : 0 ≤ (x5_1 : Int) := of_decide_eq_true (by assumption)
        have q137 : x5_1 < (l0.length : Int) := of_decide_eq_true (by assumption)
        obtain ⟨ad137, e137, hx137_0⟩ := Kd.at_int HR0.out x5_1 p137 q137
        cases e137
        replace p137 := eq_true p137
        replace q137 := eq_true q137
        have p138 : 0 ≤ (x5_1 : Int) := of_decide_eq_true (by assumption)
        have q138 : x5_1 < (l1.length : Int) := of_decide_eq_true (by assumption)
        obtain ⟨ad138, e138, hx138_0⟩ := Kd.at_int HR1.out x5_1 p138 q138
        cases e138
        replace p138 := eq_true p138
        replace q138 := eq_true q138
        have p139 : 0 ≤ (x5_1 : Int) := of_decide_eq_true (by assumption)
        have q139 : x5_1 < (l0.length : Int) := of_decide_eq_true (by assumption)
        obtain ⟨ad139, e139, hx139_0⟩ := Kd.at_int HR0.out x5_1 p139 q139
        obtain rfl : ad137 = ad139 := (by injection e139)
        replace p139 := eq_true p139
        replace q139 := eq_true q139
        have p140 : 0 ≤ (x5_1 : Int) := of_decide_eq_true (by assumption)
        have q140 : x5_1 < (l1.length : Int) := of_decide_eq_true (by assumption)
        obtain ⟨ad140, e140, hx140_0⟩ := Kd.at_int HR1.out x5_1 p140 q140
        obtain rfl : ad138 = ad140 := (by injection e140)
        replace p140 := eq_true p140
        replace q140 := eq_true q140
        go_wp2
        first | (with_reducible show Handed _ _ _ _) | (repeat (go_quiet (fail);try go_wp2))
        go_roundg k1
        case measure => have := HK1.out;omega
        case rel => exact ⟨(wrap64 (x5_1 + 1)), (by first | rfl | (simp;done) | (simp [*];done)), H', ⟨by have := HK1.out;omega⟩, by repeat (first|exact Drawn0.refl _ | apply Drawn0.step)⟩
     ·rw [if_neg c5] at H
      exact absurd H (by simp)
    ·rw [if_neg c4] at H
     exact absurd H (by simp)
   ·rw [if_neg c3] at H
    have c3b0 : decide (x5_1 < (l0.length : Int)) = false := decide_eq_false c3
    clear c3
    obtain rfl := Option.some.inj H
    go_wp2
    repeat (go_quiet (fail);try go_wp2)
    go_ret
    exact ⟨by first | rfl | (simp;done) | (simp [*];done), by repeat (first|exact Drawn0.refl _ | apply Drawn0.step)⟩
end Go.Proofs.Ytmbldnoepjmhhaa.PRf
