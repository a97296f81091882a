-- Printed.
import Derived.Test.YtaaaljifclecnaaZCosetDoublesMg0
import Derived.Test.YtaaaljifclecnaaZCosetDoublesPCox0
namespace Go.Proofs.Ytaaaljifclecnaa.PCo
open Go.RowKit Go.Proofs.YtaaaljifclecnaaW.PrintWords Go.Proofs.YtaaaljifclecnaaW.PrintLast Go.Proofs.YtaaaljifclecnaaW.PrintMore
attribute [local go_sem] max2_int min2_int max_two min_two max_three min_three max_four min_four
set_option linter.unusedVariables false
set_option linter.unusedSimpArgs false
def coset_mul.l0 : Nat → List Int → List Int → List Int → Int → Int → Option (List Int)
 | 0, _, _, _, _, _ => none
 | k + 1, x1, x5, x11, x12, x13 => if x13 < x12 then (if 0 ≤ x13 then (if x13 < (x11.length : Int) then (if 0 ≤ (rd x11 x13) then (if (rd x11 x13) < (x1.length : Int) then (if x13 < (x5.length : Int) then (coset_mul.l0 k x1 (x5.set (x13 : Int).toNat (rd x1 (rd x11 x13))) x11 x12 (wrap64 (x13 + 1))) else (none)) else (none)) else (none)) else (none)) else (none)) else (some x5)
def coset_mul.f (k : Nat) (l0 : List Int) (l1 : List Int) : Option (List Int) := if 0 ≤ (l0.length : Int) then (if ((l0.length : Int) : Int).toNat ≤ 35184372088832 then (coset_mul.l0 k l1 (List.replicate ((l0.length : Int) : Int).toNat 0) l0 (l0.length : Int) 0) else (none)) else (none)
theorem coset_mul.mono_l : ∀ k, (∀ y0 y1 y2 y3 y4, LeO (coset_mul.l0 k y0 y1 y2 y3 y4) (coset_mul.l0 (k + 1) y0 y1 y2 y3 y4))
 | 0 => fun _ _ _ _ _ r h => by simp [coset_mul.l0] at h
 | k + 1 => by
  have ih0 := coset_mul.mono_l k
  ·intro y0 y1 y2 y3 y4
   unfold coset_mul.l0
   repeat' first
   | (with_reducible exact ih0 _ _ _ _ _)
   | (with_reducible exact LeO.refl _)
   | (with_reducible exact LeO.none _)
   | (with_reducible refine LeO.ite ?_ ?_)
   | (with_reducible refine LeO.bind ?_ (fun _ => ?_))
   | exact ih0 _ _ _ _ _
   | exact LeO.none _
   | refine LeO.ite ?_ ?_
   | refine LeO.bind ?_ (fun _ => ?_)
theorem coset_mul.mono : ∀ a0 a1 k, LeO (coset_mul.f k a0 a1) (coset_mul.f (k + 1) a0 a1) := by
 intro a0 a1 k
 have ih0 := coset_mul.mono_l k
 unfold coset_mul.f
 repeat' first
   | (with_reducible exact ih0 _ _ _ _ _)
   | (with_reducible exact LeO.refl _)
   | (with_reducible exact LeO.none _)
   | (with_reducible refine LeO.ite ?_ ?_)
   | (with_reducible refine LeO.bind ?_ (fun _ => ?_))
   | exact ih0 _ _ _ _ _
   | exact LeO.none _
   | refine LeO.ite ?_ ?_
   | refine LeO.bind ?_ (fun _ => ?_)
set_option maxHeartbeats 8000000 in
set_option maxRecDepth 100000 in
theorem coset_mul.calls (k : Nat) (A0 : Option Addr) (c0 : Nat) (l0 : List Int) (A1 : Option Addr) (c1 : Nat) (l1 : List Int) (r : List Int) (w : World) (hr0 : Kd.C (Kd.int .i64) w A0 l0.length l0) (hc0 : l0.length ≤ c0) (hr1 : Kd.C (Kd.int .i64) w A1 l1.length l1) (hc1 : l1.length ≤ c1) (h : coset_mul.f k l0 l1 = some r) :
  Calls Try.prog 54 #[.slice A0 l0.length c0, .slice A1 l1.length c1] w fun e w' => ∃ v0_ : Value, e = .returned (v0_) ∧ Kd.R (Kd.int .i64) 3 w' w.heap.size (fun _ => True) v0_ r ∧ Below w.heap.size w w' := by
 have HR0 := Aside0.mk hr0
 have HC0 := Aside0.mk hc0
 clear hr0 hc0
 have HR1 := Aside0.mk hr1
 have HC1 := Aside0.mk hc1
 clear hr1 hc1
 have HB := Aside0.mk (Below.refl w.heap.size w)
 have H : (if 0 ≤ (l0.length : Int) then (if ((l0.length : Int) : Int).toNat ≤ 35184372088832 then (coset_mul.l0 k l1 (List.replicate ((l0.length : Int) : Int).toNat 0) l0 (l0.length : Int) 0) else (none)) else (none)) = some r := h
 clear h
 by_cases c3 : 0 ≤ (l0.length : Int)
 ·rw [if_pos c3] at H
  have c3b0 := eq_true c3
  have c3b1 : decide (0 ≤ (l0.length : Int)) = true := decide_eq_true c3
  clear c3
  by_cases c4 : ((l0.length : Int) : Int).toNat ≤ 35184372088832
  ·rw [if_pos c4] at H
   have c4b0 := eq_true c4
   have c4b1 : decide (((l0.length : Int) : Int).toNat ≤ 35184372088832) = true := decide_eq_true c4
   clear c4
   obtain ⟨y101, hy101⟩ : ∃ y_ : List Int, y_ = (List.replicate ((l0.length : Int) : Int).toNat 0) := ⟨_, rfl⟩
   replace H : (coset_mul.l0 k l1 y101 l0 (l0.length : Int) 0) = some r := by first | (rw [hy101];with_reducible exact H) | (have H2_ := (Option.bind_some _ _).symm.trans H;rw [hy101];with_reducible exact H2_) | (have H2_ := (Option.bind_some _ _).symm.trans H;with_reducible exact H2_) | with_reducible exact H | (rw [hy101];exact H) | exact H
   have Ny101 := Aside0.mk hy101
   clear hy101
   have H' := Aside0.mk H
   clear H
   go_enter Try.func54, Try.ntmps54
   go_wp2_with (first|((with_reducible refine gate_dst (N := 10) rfl ?_);refine Kd.R_make (Kd.int .i64) _ 3 rfl (N := 10) rfl 43 _ _ rfl (l0.length : Int) rfl rfl Try.underlying43 (.int .i64 0) 8 info3 rfl (by decide) (by omega) 0 (ok := fun _ => True) (okp := fun _ => True) rfl (fun _ hk => hk) trivial (of_decide_eq_true (by assumption)) (Nat.le_trans (Nat.mul_le_mul_right _ (of_decide_eq_true (by assumption) : (l0.length : Int).toNat ≤ 35184372088832)) (by omega)) (Below.refl _ _) (Nat.le_refl _) ?_;intro v102 w5 ho6 hb hg_ hnew_;clear hg_ hnew_;(first|rw [← Ny101.out] at ho6 | (simp only [Int.reduceToNat] at ho6;rw [← Ny101.out] at ho6));have n0_ := Aside0.mk (Kd.R_lower ho6 (below_size (bel HB.out)));have n1_ := Aside0.mk (below_step (bel HB.out) hb);clear HB;have HO103 := n0_;have HB := n1_;clear n0_ n1_;clear hb ho6))
   go_loopg [13] k (fun kq v13 w' => ∃ (x5_1 : List Int) (x13_1 : Int), v13 = .int .i64 x13_1 ∧ Aside0 (coset_mul.l0 kq l1 x5_1 l0 (l0.length : Int) x13_1 = some r) ∧ Aside0 (kq ≤ k) ∧ Aside0 (Kd.R (Kd.int .i64) 3 w' w.heap.size (fun _ => True) v102 x5_1) ∧ Aside0 (Below w.heap.size w w'))
   case atStart => exact ⟨(y101), (0), (by first | rfl | (simp;done) | (simp [*];done)), H', ⟨Nat.le_refl _⟩, ⟨Rst HO103.out⟩, ⟨bel HB.out⟩⟩
   case round =>
    clear H'
    try clear c1
    try clear p2
    try clear c3
    try clear c3b0
    try clear c3b1
    try clear c4
    try clear c4b0
    try clear c4b1
    try clear c5
    obtain ⟨x5_1, x13_1, rfl, HA, HK1, HO_5, HB⟩ := hrel
    cases gk with
    | zero => exact absurd HA.out (by simp [coset_mul.l0])
    | succ k1 =>
     have H := HA.out
     clear HA
     simp only [coset_mul.l0] at H
     by_cases c7 : x13_1 < (l0.length : Int)
     ·rw [if_pos c7] at H
      have c7b0 : decide (x13_1 < (l0.length : Int)) = true := decide_eq_true c7
      clear c7
      by_cases c8 : 0 ≤ x13_1
      ·rw [if_pos c8] at H
       have c8b0 : decide (0 ≤ x13_1) = true := decide_eq_true c8
       clear c8
       by_cases c9 : x13_1 < (l0.length : Int)
       ·rw [if_pos c9] at H
        have c9b0 : decide (x13_1 < (l0.length : Int)) = true := decide_eq_true c9
        clear c9
        by_cases c10 : 0 ≤ (rd l0 x13_1)
        ·rw [if_pos c10] at H
         have c10b0 : decide (0 ≤ (rd l0 x13_1)) = true := decide_eq_true c10
         clear c10
         by_cases c11 : (rd l0 x13_1) < (l1.length : Int)
         ·rw [if_pos c11] at H
          have c11b0 : decide ((rd l0 x13_1) < (l1.length : Int)) = true := decide_eq_true c11
          clear c11
          by_cases c12 : x13_1 < (x5_1.length : Int)
          ·rw [if_pos c12] at H
           have c12b0 : decide (x13_1 < (x5_1.length : Int)) = true := decide_eq_true c12
           clear c12
           obtain ⟨y106, hy106⟩ : ∃ y_ : List Int, y_ = (x5_1.set (x13_1 : Int).toNat (rd l1 (rd l0 x13_1))) := ⟨_, rfl⟩
           replace H : (coset_mul.l0 k1 l1 y106 l0 (l0.length : Int) (wrap64 (x13_1 + 1))) = some r := by first | (rw [hy106];with_reducible exact H) | (have H2_ := (Option.bind_some _ _).symm.trans H;rw [hy106];with_reducible exact H2_) | (have H2_ := (Option.bind_some _ _).symm.trans H;with_reducible exact H2_) | with_reducible exact H | (rw [hy106];exact H) | exact H
           have Ny106 := Aside0.mk hy106
           clear hy106
           have H' := Aside0.mk H
           clear H
           have p104 : 0 ≤ (x13_1 : Int) := of_decide_eq_true (by assumption)
           have q104 : x13_1 < (l0.length : Int) := of_decide_eq_true (by assumption)
           obtain ⟨ad104, e104, hx104_0⟩ := Kd.at_int HR0.out x13_1 p104 q104
           cases e104
           try (replace hx104_0 := (HB.out.cell (World.block_lt_of_cell? w _ hx104_0)).trans hx104_0)
           replace p104 := eq_true p104
           replace q104 := eq_true q104
           have p105 : 0 ≤ ((rd l0 x13_1) : Int) := of_decide_eq_true (by assumption)
           have q105 : (rd l0 x13_1) < (l1.length : Int) := of_decide_eq_true (by assumption)
           obtain ⟨ad105, e105, hx105_0⟩ := Kd.at_int HR1.out (rd l0 x13_1) p105 q105
           cases e105
           try (replace hx105_0 := (HB.out.cell (World.block_lt_of_cell? w _ hx105_0)).trans hx105_0)
           replace p105 := eq_true p105
           replace q105 := eq_true q105
           have p13 : 0 ≤ (x13_1 : Int) := of_decide_eq_true (by assumption)
           have q13 : (x13_1 : Int) < ((x5_1.length : Int) : Int) := of_decide_eq_true (by assumption)
           obtain ⟨go13, co13, eo13, gb13, gl13, cl13, HG13⟩ := Kd.R_form HO_5.out (by omega)
           (first|cases eo13 | (injection eo13 with ea_ en_ ec_;(first|subst ea_ | (injection ea_ with ea_;subst ea_));subst ec_;clear en_))
           have GB13 := Aside0.mk gb13
           have GG13 := Aside0.mk HG13
           clear gb13 gl13 HG13
           obtain ⟨hx13_0, hf13_0⟩ := Kd.R_celln 0 HO_5.out (x13_1 : Int) p13 q13
           replace p13 := eq_true p13
           replace q13 := eq_true q13
           have HP14 := Kd.R_putg HO_5.out (x13_1 : Int) (rd l1 (rd l0 x13_1))
           go_wp2_with (first|((with_reducible refine gate_store (t := 3) (p := 24) rfl ?_);refine store_event (t := 3) (p := 24) (v := ?vo_w15) (w1 := (wr.setCell ⟨go13, (x13_1 : Int).toNat, none⟩ (.int .i64 (rd l1 (rd l0 x13_1))))) ?hg ?ho ?hn ?hr ?_;(case ho => rfl);(case hg => rfl);(case hn => rfl);(case hr => first | (go_simp;done) | (go_simp;rfl));intro w15 hw;have hg : wr.grownBy w15 (some go13) := (by rw [hw];exact HP14.2);have hp_ : Kd.R (Kd.int .i64) 3 w15 w.heap.size (fun _ => True) (.slice (some ⟨go13, 0, none⟩) x5_1.length co13) y106 := (by rw [hw, Ny106.out];exact HP14.1);clear HP14;have n0_ := Aside0.mk (hp_);have n1_ := Aside0.mk ((by rw [hw];exact below_set (HB.out) GB13.out : Below w.heap.size w w15));clear HO_5;clear HB;have HO_5 := n0_;have HB := n1_;clear n0_ n1_;clear hg hw hp_))
           go_roundg k1
           case measure => have := HK1.out;omega
           case rel => exact ⟨(y106), (wrap64 (x13_1 + 1)), (by first | rfl | (simp;done) | (simp [*];done)), H', ⟨by have := HK1.out;omega⟩, ⟨Rst HO_5.out⟩, ⟨bel HB.out⟩⟩
          ·rw [if_neg c12] at H
           exact absurd H (by simp)
         ·rw [if_neg c11] at H
          exact absurd H (by simp)
        ·rw [if_neg c10] at H
         exact absurd H (by simp)
       ·rw [if_neg c9] at H
        exact absurd H (by simp)
      ·rw [if_neg c8] at H
       exact absurd H (by simp)
     ·rw [if_neg c7] at H
      have c7b0 : decide (x13_1 < (l0.length : Int)) = false := decide_eq_false c7
      clear c7
      obtain rfl := Option.some.inj H
      go_wp2
      go_ret
      exact ⟨_, by first | rfl | (simp [errW_none, errW_some] <;> rfl) | (simp [*, errW_none, errW_some] <;> rfl), Rst HO_5.out, bel HB.out⟩
  ·rw [if_neg c4] at H
   exact absurd H (by simp)
 ·rw [if_neg c3] at H
  exact absurd H (by simp)
def coset_inverse.l0 : Nat → List Int → List Int → Int → Int → Option (List Int)
 | 0, _, _, _, _ => none
 | k + 1, x3, x9, x10, x11 => if x11 < x10 then (if 0 ≤ x11 then (if x11 < (x9.length : Int) then (if 0 ≤ (rd x9 x11) then (if (rd x9 x11) < (x3.length : Int) then (coset_inverse.l0 k (x3.set ((rd x9 x11) : Int).toNat x11) x9 x10 (wrap64 (x11 + 1))) else (none)) else (none)) else (none)) else (none)) else (some x3)
def coset_inverse.f (k : Nat) (l0 : List Int) : Option (List Int) := if 0 ≤ (l0.length : Int) then (if ((l0.length : Int) : Int).toNat ≤ 35184372088832 then (coset_inverse.l0 k (List.replicate ((l0.length : Int) : Int).toNat 0) l0 (l0.length : Int) 0) else (none)) else (none)
theorem coset_inverse.mono_l : ∀ k, (∀ y0 y1 y2 y3, LeO (coset_inverse.l0 k y0 y1 y2 y3) (coset_inverse.l0 (k + 1) y0 y1 y2 y3))
 | 0 => fun _ _ _ _ r h => by simp [coset_inverse.l0] at h
 | k + 1 => by
  have ih0 := coset_inverse.mono_l k
  ·intro y0 y1 y2 y3
   unfold coset_inverse.l0
   repeat' first
   | (with_reducible exact ih0 _ _ _ _)
   | (with_reducible exact LeO.refl _)
   | (with_reducible exact LeO.none _)
   | (with_reducible refine LeO.ite ?_ ?_)
   | (with_reducible refine LeO.bind ?_ (fun _ => ?_))
   | exact ih0 _ _ _ _
   | exact LeO.none _
   | refine LeO.ite ?_ ?_
   | refine LeO.bind ?_ (fun _ => ?_)
theorem coset_inverse.mono : ∀ a0 k, LeO (coset_inverse.f k a0) (coset_inverse.f (k + 1) a0) := by
 intro a0 k
 have ih0 := coset_inverse.mono_l k
 unfold coset_inverse.f
 repeat' first
   | (with_reducible exact ih0 _ _ _ _)
   | (with_reducible exact LeO.refl _)
   | (with_reducible exact LeO.none _)
   | (with_reducible refine LeO.ite ?_ ?_)
   | (with_reducible refine LeO.bind ?_ (fun _ => ?_))
   | exact ih0 _ _ _ _
   | exact LeO.none _
   | refine LeO.ite ?_ ?_
   | refine LeO.bind ?_ (fun _ => ?_)
set_option maxHeartbeats 8000000 in
set_option maxRecDepth 100000 in
theorem coset_inverse.calls (k : Nat) (A0 : Option Addr) (c0 : Nat) (l0 : List Int) (r : List Int) (w : World) (hr0 : Kd.C (Kd.int .i64) w A0 l0.length l0) (hc0 : l0.length ≤ c0) (h : coset_inverse.f k l0 = some r) :
  Calls Try.prog 55 #[.slice A0 l0.length c0] w fun e w' => ∃ v0_ : Value, e = .returned (v0_) ∧ Kd.R (Kd.int .i64) 3 w' w.heap.size (fun _ => True) v0_ r ∧ Below w.heap.size w w' := by
 have HR0 := Aside0.mk hr0
 have HC0 := Aside0.mk hc0
 clear hr0 hc0
 have HB := Aside0.mk (Below.refl w.heap.size w)
 have H : (if 0 ≤ (l0.length : Int) then (if ((l0.length : Int) : Int).toNat ≤ 35184372088832 then (coset_inverse.l0 k (List.replicate ((l0.length : Int) : Int).toNat 0) l0 (l0.length : Int) 0) else (none)) else (none)) = some r := h
 clear h
 by_cases c2 : 0 ≤ (l0.length : Int)
 ·rw [if_pos c2] at H
  have c2b0 := eq_true c2
  have c2b1 : decide (0 ≤ (l0.length : Int)) = true := decide_eq_true c2
  clear c2
  by_cases c3 : ((l0.length : Int) : Int).toNat ≤ 35184372088832
  ·rw [if_pos c3] at H
   have c3b0 := eq_true c3
   have c3b1 : decide (((l0.length : Int) : Int).toNat ≤ 35184372088832) = true := decide_eq_true c3
   clear c3
   obtain ⟨y107, hy107⟩ : ∃ y_ : List Int, y_ = (List.replicate ((l0.length : Int) : Int).toNat 0) := ⟨_, rfl⟩
   replace H : (coset_inverse.l0 k y107 l0 (l0.length : Int) 0) = some r := by first | (rw [hy107];with_reducible exact H) | (have H2_ := (Option.bind_some _ _).symm.trans H;rw [hy107];with_reducible exact H2_) | (have H2_ := (Option.bind_some _ _).symm.trans H;with_reducible exact H2_) | with_reducible exact H | (rw [hy107];exact H) | exact H
   have Ny107 := Aside0.mk hy107
   clear hy107
   have H' := Aside0.mk H
   clear H
   go_enter Try.func55, Try.ntmps55
   go_wp2_with (first|((with_reducible refine gate_dst (N := 8) rfl ?_);refine Kd.R_make (Kd.int .i64) _ 3 rfl (N := 8) rfl 43 _ _ rfl (l0.length : Int) rfl rfl Try.underlying43 (.int .i64 0) 8 info3 rfl (by decide) (by omega) 0 (ok := fun _ => True) (okp := fun _ => True) rfl (fun _ hk => hk) trivial (of_decide_eq_true (by assumption)) (Nat.le_trans (Nat.mul_le_mul_right _ (of_decide_eq_true (by assumption) : (l0.length : Int).toNat ≤ 35184372088832)) (by omega)) (Below.refl _ _) (Nat.le_refl _) ?_;intro v108 w4 ho5 hb hg_ hnew_;clear hg_ hnew_;(first|rw [← Ny107.out] at ho5 | (simp only [Int.reduceToNat] at ho5;rw [← Ny107.out] at ho5));have n0_ := Aside0.mk (Kd.R_lower ho5 (below_size (bel HB.out)));have n1_ := Aside0.mk (below_step (bel HB.out) hb);clear HB;have HO109 := n0_;have HB := n1_;clear n0_ n1_;clear hb ho5))
   go_loopg [11] k (fun kq v11 w' => ∃ (x3_1 : List Int) (x11_1 : Int), v11 = .int .i64 x11_1 ∧ Aside0 (coset_inverse.l0 kq x3_1 l0 (l0.length : Int) x11_1 = some r) ∧ Aside0 (kq ≤ k) ∧ Aside0 (Kd.R (Kd.int .i64) 3 w' w.heap.size (fun _ => True) v108 x3_1) ∧ Aside0 (Below w.heap.size w w'))
   case atStart => exact ⟨(y107), (0), (by first | rfl | (simp;done) | (simp [*];done)), H', ⟨Nat.le_refl _⟩, ⟨Rst HO109.out⟩, ⟨bel HB.out⟩⟩
   case round =>
    clear H'
    try clear c2
    try clear c2b0
    try clear c2b1
    try clear p2
    try clear c3
    try clear c3b0
    try clear c3b1
    try clear c5
    obtain ⟨x3_1, x11_1, rfl, HA, HK1, HO_3, HB⟩ := hrel
    cases gk with
    | zero => exact absurd HA.out (by simp [coset_inverse.l0])
    | succ k1 =>
     have H := HA.out
     clear HA
     simp only [coset_inverse.l0] at H
     by_cases c6 : x11_1 < (l0.length : Int)
     ·rw [if_pos c6] at H
      have c6b0 : decide (x11_1 < (l0.length : Int)) = true := decide_eq_true c6
      clear c6
      by_cases c7 : 0 ≤ x11_1
      ·rw [if_pos c7] at H
       have c7b0 : decide (0 ≤ x11_1) = true := decide_eq_true c7
       clear c7
       by_cases c8 : x11_1 < (l0.length : Int)
       ·rw [if_pos c8] at H
        have c8b0 : decide (x11_1 < (l0.length : Int)) = true := decide_eq_true c8
        clear c8
        by_cases c9 : 0 ≤ (rd l0 x11_1)
        ·rw [if_pos c9] at H
         have c9b0 : decide (0 ≤ (rd l0 x11_1)) = true := decide_eq_true c9
         clear c9
         by_cases c10 : (rd l0 x11_1) < (x3_1.length : Int)
         ·rw [if_pos c10] at H
          have c10b0 : decide ((rd l0 x11_1) < (x3_1.length : Int)) = true := decide_eq_true c10
          clear c10
          obtain ⟨y111, hy111⟩ : ∃ y_ : List Int, y_ = (x3_1.set ((rd l0 x11_1) : Int).toNat x11_1) := ⟨_, rfl⟩
          replace H : (coset_inverse.l0 k1 y111 l0 (l0.length : Int) (wrap64 (x11_1 + 1))) = some r := by first | (rw [hy111];with_reducible exact H) | (have H2_ := (Option.bind_some _ _).symm.trans H;rw [hy111];with_reducible exact H2_) | (have H2_ := (Option.bind_some _ _).symm.trans H;with_reducible exact H2_) | with_reducible exact H | (rw [hy111];exact H) | exact H
          have Ny111 := Aside0.mk hy111
          clear hy111
          have H' := Aside0.mk H
          clear H
          have p110 : 0 ≤ (x11_1 : Int) := of_decide_eq_true (by assumption)
          have q110 : x11_1 < (l0.length : Int) := of_decide_eq_true (by assumption)
          obtain ⟨ad110, e110, hx110_0⟩ := Kd.at_int HR0.out x11_1 p110 q110
          cases e110
          try (replace hx110_0 := (HB.out.cell (World.block_lt_of_cell? w _ hx110_0)).trans hx110_0)
          replace p110 := eq_true p110
          replace q110 := eq_true q110
          have p11 : 0 ≤ ((rd l0 x11_1) : Int) := of_decide_eq_true (by assumption)
          have q11 : ((rd l0 x11_1) : Int) < ((x3_1.length : Int) : Int) := of_decide_eq_true (by assumption)
          obtain ⟨go11, co11, eo11, gb11, gl11, cl11, HG11⟩ := Kd.R_form HO_3.out (by omega)
          (first|cases eo11 | (injection eo11 with ea_ en_ ec_;(first|subst ea_ | (injection ea_ with ea_;subst ea_));subst ec_;clear en_))
          have GB11 := Aside0.mk gb11
          have GG11 := Aside0.mk HG11
          clear gb11 gl11 HG11
          obtain ⟨hx11_0, hf11_0⟩ := Kd.R_celln 0 HO_3.out ((rd l0 x11_1) : Int) p11 q11
          replace p11 := eq_true p11
          replace q11 := eq_true q11
          have HP12 := Kd.R_putg HO_3.out ((rd l0 x11_1) : Int) x11_1
          go_wp2_with (first|((with_reducible refine gate_store (t := 3) (p := 19) rfl ?_);refine store_event (t := 3) (p := 19) (v := ?vo_w13) (w1 := (wr.setCell ⟨go11, ((rd l0 x11_1) : Int).toNat, none⟩ (.int .i64 x11_1))) ?hg ?ho ?hn ?hr ?_;(case ho => rfl);(case hg => rfl);(case hn => rfl);(case hr => first | (go_simp;done) | (go_simp;rfl));intro w13 hw;have hg : wr.grownBy w13 (some go11) := (by rw [hw];exact HP12.2);have hp_ : Kd.R (Kd.int .i64) 3 w13 w.heap.size (fun _ => True) (.slice (some ⟨go11, 0, none⟩) x3_1.length co11) y111 := (by rw [hw, Ny111.out];exact HP12.1);clear HP12;have n0_ := Aside0.mk (hp_);have n1_ := Aside0.mk ((by rw [hw];exact below_set (HB.out) GB11.out : Below w.heap.size w w13));clear HO_3;clear HB;have HO_3 := n0_;have HB := n1_;clear n0_ n1_;clear hg hw hp_))
          go_roundg k1
          case measure => have := HK1.out;omega
          case rel => exact ⟨(y111), (wrap64 (x11_1 + 1)), (by first | rfl | (simp;done) | (simp [*];done)), H', ⟨by have := HK1.out;omega⟩, ⟨Rst HO_3.out⟩, ⟨bel HB.out⟩⟩
         ·rw [if_neg c10] at H
          exact absurd H (by simp)
        ·rw [if_neg c9] at H
         exact absurd H (by simp)
       ·rw [if_neg c8] at H
        exact absurd H (by simp)
      ·rw [if_neg c7] at H
       exact absurd H (by simp)
     ·rw [if_neg c6] at H
      have c6b0 : decide (x11_1 < (l0.length : Int)) = false := decide_eq_false c6
      clear c6
      obtain rfl := Option.some.inj H
      go_wp2
      go_ret
      exact ⟨_, by first | rfl | (simp [errW_none, errW_some] <;> rfl) | (simp [*, errW_none, errW_some] <;> rfl), Rst HO_3.out, bel HB.out⟩
  ·rw [if_neg c3] at H
   exact absurd H (by simp)
 ·rw [if_neg c2] at H
  exact absurd H (by simp)
def coset_key.l0 : Nat → List Int → List Int → Int → Int → Option (ByteArray)
 | 0, _, _, _, _ => none
 | k + 1, x3, x9, x10, x11 => if x11 < x10 then (if 0 ≤ x11 then (if x11 < (x9.length : Int) then (if x11 < (x3.length : Int) then (coset_key.l0 k (x3.set (x11 : Int).toNat ((rd x9 x11) % 256)) x9 x10 (wrap64 (x11 + 1))) else (none)) else (none)) else (none)) else (some (strOfNums x3))
def coset_key.f (k : Nat) (l0 : List Int) : Option (ByteArray) := if 0 ≤ (l0.length : Int) then (if ((l0.length : Int) : Int).toNat ≤ 281474976710656 then (coset_key.l0 k (List.replicate ((l0.length : Int) : Int).toNat 0) l0 (l0.length : Int) 0) else (none)) else (none)
theorem coset_key.mono_l : ∀ k, (∀ y0 y1 y2 y3, LeO (coset_key.l0 k y0 y1 y2 y3) (coset_key.l0 (k + 1) y0 y1 y2 y3))
 | 0 => fun _ _ _ _ r h => by simp [coset_key.l0] at h
 | k + 1 => by
  have ih0 := coset_key.mono_l k
  ·intro y0 y1 y2 y3
   unfold coset_key.l0
   repeat' first
   | (with_reducible exact ih0 _ _ _ _)
   | (with_reducible exact LeO.refl _)
   | (with_reducible exact LeO.none _)
   | (with_reducible refine LeO.ite ?_ ?_)
   | (with_reducible refine LeO.bind ?_ (fun _ => ?_))
   | exact ih0 _ _ _ _
   | exact LeO.none _
   | refine LeO.ite ?_ ?_
   | refine LeO.bind ?_ (fun _ => ?_)
theorem coset_key.mono : ∀ a0 k, LeO (coset_key.f k a0) (coset_key.f (k + 1) a0) := by
 intro a0 k
 have ih0 := coset_key.mono_l k
 unfold coset_key.f
 repeat' first
   | (with_reducible exact ih0 _ _ _ _)
   | (with_reducible exact LeO.refl _)
   | (with_reducible exact LeO.none _)
   | (with_reducible refine LeO.ite ?_ ?_)
   | (with_reducible refine LeO.bind ?_ (fun _ => ?_))
   | exact ih0 _ _ _ _
   | exact LeO.none _
   | refine LeO.ite ?_ ?_
   | refine LeO.bind ?_ (fun _ => ?_)
set_option maxHeartbeats 8000000 in
set_option maxRecDepth 100000 in
theorem coset_key.calls (k : Nat) (A0 : Option Addr) (c0 : Nat) (l0 : List Int) (r : ByteArray) (w : World) (hr0 : Kd.C (Kd.int .i64) w A0 l0.length l0) (hc0 : l0.length ≤ c0) (h : coset_key.f k l0 = some r) :
  Calls Try.prog 62 #[.slice A0 l0.length c0] w fun e w' => e = .returned (.string r) ∧ Below w.heap.size w w' := by
 have HR0 := Aside0.mk hr0
 have HC0 := Aside0.mk hc0
 clear hr0 hc0
 have HB := Aside0.mk (Below.refl w.heap.size w)
 have H : (if 0 ≤ (l0.length : Int) then (if ((l0.length : Int) : Int).toNat ≤ 281474976710656 then (coset_key.l0 k (List.replicate ((l0.length : Int) : Int).toNat 0) l0 (l0.length : Int) 0) else (none)) else (none)) = some r := h
 clear h
 by_cases c2 : 0 ≤ (l0.length : Int)
 ·rw [if_pos c2] at H
  have c2b0 := eq_true c2
  have c2b1 : decide (0 ≤ (l0.length : Int)) = true := decide_eq_true c2
  clear c2
  by_cases c3 : ((l0.length : Int) : Int).toNat ≤ 281474976710656
  ·rw [if_pos c3] at H
   have c3b0 := eq_true c3
   have c3b1 : decide (((l0.length : Int) : Int).toNat ≤ 281474976710656) = true := decide_eq_true c3
   clear c3
   obtain ⟨y112, hy112⟩ : ∃ y_ : List Int, y_ = (List.replicate ((l0.length : Int) : Int).toNat 0) := ⟨_, rfl⟩
   replace H : (coset_key.l0 k y112 l0 (l0.length : Int) 0) = some r := by first | (rw [hy112];with_reducible exact H) | (have H2_ := (Option.bind_some _ _).symm.trans H;rw [hy112];with_reducible exact H2_) | (have H2_ := (Option.bind_some _ _).symm.trans H;with_reducible exact H2_) | with_reducible exact H | (rw [hy112];exact H) | exact H
   have Ny112 := Aside0.mk hy112
   clear hy112
   have H' := Aside0.mk H
   clear H
   go_enter Try.func62, Try.ntmps62
   go_wp2_with (first|((with_reducible refine gate_dst (N := 8) rfl ?_);refine Kd.R_make (Kd.int .u8) _ 5 rfl (N := 8) rfl 108 _ _ rfl (l0.length : Int) rfl rfl Try.underlying108 (.int .u8 0) 1 info5 rfl (by decide) (by omega) 0 (ok := fun _ => True) (okp := fun _ => True) rfl (fun _ hk => hk) trivial (of_decide_eq_true (by assumption)) (Nat.le_trans (Nat.mul_le_mul_right _ (of_decide_eq_true (by assumption) : (l0.length : Int).toNat ≤ 281474976710656)) (by omega)) (Below.refl _ _) (Nat.le_refl _) ?_;intro v113 w4 ho5 hb hg_ hnew_;clear hg_ hnew_;(first|rw [← Ny112.out] at ho5 | (simp only [Int.reduceToNat] at ho5;rw [← Ny112.out] at ho5));have n0_ := Aside0.mk (Kd.R_lower ho5 (below_size (bel HB.out)));have n1_ := Aside0.mk (below_step (bel HB.out) hb);clear HB;have HO114 := n0_;have HB := n1_;clear n0_ n1_;clear hb ho5))
   go_loopg [11] k (fun kq v11 w' => ∃ (x3_1 : List Int) (x11_1 : Int), v11 = .int .i64 x11_1 ∧ Aside0 (coset_key.l0 kq x3_1 l0 (l0.length : Int) x11_1 = some r) ∧ Aside0 (kq ≤ k) ∧ Aside0 (Kd.R (Kd.int .u8) 5 w' w.heap.size (fun _ => True) v113 x3_1) ∧ Aside0 (Below w.heap.size w w'))
   case atStart => exact ⟨(y112), (0), (by first | rfl | (simp;done) | (simp [*];done)), H', ⟨Nat.le_refl _⟩, ⟨Rst HO114.out⟩, ⟨bel HB.out⟩⟩
   case round =>
    clear H'
    try clear c2
    try clear c2b0
    try clear c2b1
    try clear p2
    try clear c3
    try clear c3b0
    try clear c3b1
    obtain ⟨x3_1, x11_1, rfl, HA, HK1, HO_3, HB⟩ := hrel
    cases gk with
    | zero => exact absurd HA.out (by simp [coset_key.l0])
    | succ k1 =>
     have H := HA.out
     clear HA
     simp only [coset_key.l0] at H
     by_cases c6 : x11_1 < (l0.length : Int)
     ·rw [if_pos c6] at H
      have c6b0 : decide (x11_1 < (l0.length : Int)) = true := decide_eq_true c6
      clear c6
      by_cases c7 : 0 ≤ x11_1
      ·rw [if_pos c7] at H
       have c7b0 : decide (0 ≤ x11_1) = true := decide_eq_true c7
       clear c7
       by_cases c8 : x11_1 < (l0.length : Int)
       ·rw [if_pos c8] at H
        have c8b0 : decide (x11_1 < (l0.length : Int)) = true := decide_eq_true c8
        clear c8
        by_cases c9 : x11_1 < (x3_1.length : Int)
        ·rw [if_pos c9] at H
         have c9b0 : decide (x11_1 < (x3_1.length : Int)) = true := decide_eq_true c9
         clear c9
         obtain ⟨y116, hy116⟩ : ∃ y_ : List Int, y_ = (x3_1.set (x11_1 : Int).toNat ((rd l0 x11_1) % 256)) := ⟨_, rfl⟩
         replace H : (coset_key.l0 k1 y116 l0 (l0.length : Int) (wrap64 (x11_1 + 1))) = some r := by first | (rw [hy116];with_reducible exact H) | (have H2_ := (Option.bind_some _ _).symm.trans H;rw [hy116];with_reducible exact H2_) | (have H2_ := (Option.bind_some _ _).symm.trans H;with_reducible exact H2_) | with_reducible exact H | (rw [hy116];exact H) | exact H
         have Ny116 := Aside0.mk hy116
         clear hy116
         have H' := Aside0.mk H
         clear H
         have p115 : 0 ≤ (x11_1 : Int) := of_decide_eq_true (by assumption)
         have q115 : x11_1 < (l0.length : Int) := of_decide_eq_true (by assumption)
         obtain ⟨ad115, e115, hx115_0⟩ := Kd.at_int HR0.out x11_1 p115 q115
         cases e115
         try (replace hx115_0 := (HB.out.cell (World.block_lt_of_cell? w _ hx115_0)).trans hx115_0)
         replace p115 := eq_true p115
         replace q115 := eq_true q115
         have p10 : 0 ≤ (x11_1 : Int) := of_decide_eq_true (by assumption)
         have q10 : (x11_1 : Int) < ((x3_1.length : Int) : Int) := of_decide_eq_true (by assumption)
         obtain ⟨go10, co10, eo10, gb10, gl10, cl10, HG10⟩ := Kd.R_form HO_3.out (by omega)
         (first|cases eo10 | (injection eo10 with ea_ en_ ec_;(first|subst ea_ | (injection ea_ with ea_;subst ea_));subst ec_;clear en_))
         have GB10 := Aside0.mk gb10
         have GG10 := Aside0.mk HG10
         clear gb10 gl10 HG10
         obtain ⟨hx10_0, hf10_0⟩ := Kd.R_celln 0 HO_3.out (x11_1 : Int) p10 q10
         replace p10 := eq_true p10
         replace q10 := eq_true q10
         have HP11 := Kd.R_putg HO_3.out (x11_1 : Int) ((rd l0 x11_1) % 256)
         go_wp2_with (first|((with_reducible refine gate_store (t := 5) (p := 20) rfl ?_);refine store_event (t := 5) (p := 20) (v := ?vo_w12) (w1 := (wr.setCell ⟨go10, (x11_1 : Int).toNat, none⟩ (.int .u8 ((rd l0 x11_1) % 256)))) ?hg ?ho ?hn ?hr ?_;(case ho => rfl);(case hg => rfl);(case hn => rfl);(case hr => first | (go_simp;done) | (go_simp;rfl));intro w12 hw;have hg : wr.grownBy w12 (some go10) := (by rw [hw];exact HP11.2);have hp_ : Kd.R (Kd.int .u8) 5 w12 w.heap.size (fun _ => True) (.slice (some ⟨go10, 0, none⟩) x3_1.length co10) y116 := (by rw [hw, Ny116.out];exact HP11.1);clear HP11;have n0_ := Aside0.mk (hp_);have n1_ := Aside0.mk ((by rw [hw];exact below_set (HB.out) GB10.out : Below w.heap.size w w12));clear HO_3;clear HB;have HO_3 := n0_;have HB := n1_;clear n0_ n1_;clear hg hw hp_))
         go_roundg k1
         case measure => have := HK1.out;omega
         case rel => exact ⟨(y116), (wrap64 (x11_1 + 1)), (by first | rfl | (simp;done) | (simp [*];done)), H', ⟨by have := HK1.out;omega⟩, ⟨Rst HO_3.out⟩, ⟨bel HB.out⟩⟩
        ·rw [if_neg c9] at H
         exact absurd H (by simp)
       ·rw [if_neg c8] at H
        exact absurd H (by simp)
      ·rw [if_neg c7] at H
       exact absurd H (by simp)
     ·rw [if_neg c6] at H
      have c6b0 : decide (x11_1 < (l0.length : Int)) = false := decide_eq_false c6
      clear c6
      obtain rfl := Option.some.inj H
      have hcv13 := own_string (P := Try.prog) Try.underlying108 Try.underlying5 Try.underlying9 (Kd.own_of_R HO_3.out)
      go_wp2
      go_ret
      exact ⟨by first | rfl | (simp [errW_none, errW_some] <;> rfl) | (simp [*, errW_none, errW_some] <;> rfl), bel HB.out⟩
  ·rw [if_neg c3] at H
   exact absurd H (by simp)
 ·rw [if_neg c2] at H
  exact absurd H (by simp)
abbrev permgroup_Check.f := @Go.Proofs.Ytaaaljifclecnaa.PBs.permgroup_Check.f
abbrev permgroup_Check.mono := @Go.Proofs.Ytaaaljifclecnaa.PBs.permgroup_Check.mono
abbrev permgroup_Check.calls := @Go.Proofs.Ytaaaljifclecnaa.PBs.permgroup_Check.calls
abbrev permgroup_elements.f := @Go.Proofs.Ytaaaljifclecnaa.Bs.permgroup_elements.f
abbrev permgroup_elements.calls := @Go.Proofs.Ytaaaljifclecnaa.Bs.permgroup_elements.calls
def permgroup_Elements.f (k : Nat) (a0_0 : Int) (l0_1 : List (List Int)) : Option ((List (List Int)) × Int) := (permgroup_Check.f k a0_0 l0_1).bind fun t120 => (if t120 = 0 then ((permgroup_elements.f a0_0 l0_1).bind fun bt121 => (some (bt121.1, bt121.2))) else (some (([] : List (List Int)), t120)))
theorem permgroup_Elements.mono : ∀ a0 a1 k, LeO (permgroup_Elements.f k a0 a1) (permgroup_Elements.f (k + 1) a0 a1) := by
 intro a0 a1 k
 unfold permgroup_Elements.f
 repeat' first
   | (with_reducible exact permgroup_Check.mono _ _ _)
   | (with_reducible exact LeO.refl _)
   | (with_reducible exact LeO.none _)
   | (with_reducible refine LeO.ite ?_ ?_)
   | (with_reducible refine LeO.bind ?_ (fun _ => ?_))
   | exact permgroup_Check.mono _ _ _
   | exact LeO.none _
   | refine LeO.ite ?_ ?_
   | refine LeO.bind ?_ (fun _ => ?_)
set_option maxHeartbeats 8000000 in
set_option maxRecDepth 100000 in
theorem permgroup_Elements.calls (k : Nat) (a0_0 : Int) (A0_1 : Option Addr) (c0_1 : Nat) (l0_1 : List (List Int)) (r1 : List (List Int)) (r2 : Int) (w : World) (hr0_1 : Kd.C (Kd.slice 3 (Kd.int .i64)) w A0_1 l0_1.length l0_1) (hc0_1 : l0_1.length ≤ c0_1) (h : permgroup_Elements.f k a0_0 l0_1 = some (r1, r2)) :
  Calls Try.prog 78 #[.agg #[.int .i64 a0_0, .slice A0_1 l0_1.length c0_1]] w fun e w' => ∃ v0_ : Value, e = .returned (.tuple #[v0_, .int .i64 r2]) ∧ Kd.S (Kd.slice 3 (Kd.int .i64)) 43 w' w.heap.size (fun _ => True) v0_ r1 ∧ Below w.heap.size w w' := by
 have hu := Try.underlying24
 have P0 := Aside0.mk hr0_1
 have L0 := Aside0.mk hc0_1
 unfold permgroup_Elements.f at h
 obtain ⟨t1, h1, h⟩ := Option.bind_eq_some_iff.1 h
 have E1 := Aside0.mk h1
 have X := Aside0.mk (blk_new w (.cells #[.int .i64 a0_0, .slice A0_1 l0_1.length c0_1] 24))
 have B := Aside0.mk (show Below w.heap.size w (w.alloc (.cells #[.int .i64 a0_0, .slice A0_1 l0_1.length c0_1] 24)) from below_alloc (Below.refl _ _) _)
 clear hr0_1 hc0_1 h1
 go_enter Try.func78, Try.ntmps78
 by_cases c1 : t1 = 0
 ·subst c1
  rw [if_pos rfl] at h
  obtain ⟨⟨t2, t3⟩, h2, h⟩ := Option.bind_eq_some_iff.1 h
  obtain ⟨rfl, rfl⟩ := Prod.mk.inj (Option.some.inj h)
  have E2 := Aside0.mk h2
  clear h2 h
  go_wp2_with (first
   | (go_at_call 73;(refine (permgroup_Check.calls k a0_0 A0_1 c0_1 l0_1 0 _ (Kd.C_below P0.out (below_step B.out bel0)) L0.out E1.out).mono ?_);rintro e1 w1 ⟨rfl, hb⟩;have hq := below_step (w := (w.alloc (.cells #[.int .i64 a0_0, .slice A0_1 l0_1.length c0_1] 24))) bel0 hb;have B1 := Aside0.mk (below_step B.out hq);have X1 := Aside0.mk ((hq.block _ (blk_lt X.out)).trans X.out);have x10 := blk_cell X1.out 0;have x11 := blk_cell X1.out 1;have z1 := blk_lt X1.out;clear hb hq)
   | (go_at_call 89;(refine (permgroup_elements.calls a0_0 A0_1 c0_1 l0_1 t2 t3 _ (Kd.C_below P0.out (below_step B1.out bel0)) L0.out E2.out).mono ?_);rintro e2 w2 ⟨v2, rfl, hs2, hb⟩;have S2 := Aside0.mk hs2;clear hs2;have hq := below_step (w := w1) bel0 hb;have B2 := Aside0.mk (below_step B1.out hq);have X2 := Aside0.mk ((hq.block _ (blk_lt X1.out)).trans X1.out);have x20 := blk_cell X2.out 0;have x21 := blk_cell X2.out 1;have z2 := blk_lt X2.out;clear hb hq))
  go_ret2
  exact ⟨_, rfl, Kd.S_lower S2.out (by have := B1.out.size;omega), B2.out⟩
 ·rw [if_neg c1] at h
  obtain ⟨rfl, rfl⟩ := Prod.mk.inj (Option.some.inj h)
  have n1 : (t1 == 0) = false := beq_eq_false_iff_ne.mpr c1
  have m1 : (t1 != 0) = true := bne_iff_ne.mpr c1
  clear h c1
  go_wp2_with (go_at_call 73;(refine (permgroup_Check.calls k a0_0 A0_1 c0_1 l0_1 t1 _ (Kd.C_below P0.out (below_step B.out bel0)) L0.out E1.out).mono ?_);rintro e1 w1 ⟨rfl, hb⟩;have hq := below_step (w := (w.alloc (.cells #[.int .i64 a0_0, .slice A0_1 l0_1.length c0_1] 24))) bel0 hb;have B1 := Aside0.mk (below_step B.out hq);have X1 := Aside0.mk ((hq.block _ (blk_lt X.out)).trans X.out);have x10 := blk_cell X1.out 0;have x11 := blk_cell X1.out 1;have z1 := blk_lt X1.out;clear hb hq)
  go_ret2
  exact ⟨_, rfl, Kd.S_nil _ _ _ _ _, B1.out⟩
abbrev permgroup_two.f := @Go.Proofs.Ytaaaljifclecnaa.PBs.permgroup_two.f
abbrev permgroup_two.mono := @Go.Proofs.Ytaaaljifclecnaa.PBs.permgroup_two.mono
abbrev permgroup_two.calls := @Go.Proofs.Ytaaaljifclecnaa.PBs.permgroup_two.calls
abbrev permgroup_sub.f := @Go.Proofs.Ytaaaljifclecnaa.Bs.permgroup_sub.f
abbrev permgroup_sub.calls := @Go.Proofs.Ytaaaljifclecnaa.Bs.permgroup_sub.calls
def permgroup_IsSubgroup.f (k : Nat) (a0_0 : Int) (l0_1 : List (List Int)) (a1_0 : Int) (l1_1 : List (List Int)) : Option (Bool × Int) := (permgroup_two.f k a0_0 l0_1 a1_0 l1_1).bind fun t127 => (if t127 = 0 then ((permgroup_sub.f a0_0 l0_1 a1_0 l1_1).bind fun t128 => (some (t128, 0))) else (some (false, t127)))
theorem permgroup_IsSubgroup.mono : ∀ a0 a1 a2 a3 k, LeO (permgroup_IsSubgroup.f k a0 a1 a2 a3) (permgroup_IsSubgroup.f (k + 1) a0 a1 a2 a3) := by
 intro a0 a1 a2 a3 k
 unfold permgroup_IsSubgroup.f
 repeat' first
   | (with_reducible exact permgroup_two.mono _ _ _ _ _)
   | (with_reducible exact LeO.refl _)
   | (with_reducible exact LeO.none _)
   | (with_reducible refine LeO.ite ?_ ?_)
   | (with_reducible refine LeO.bind ?_ (fun _ => ?_))
   | exact permgroup_two.mono _ _ _ _ _
   | exact LeO.none _
   | refine LeO.ite ?_ ?_
   | refine LeO.bind ?_ (fun _ => ?_)
set_option maxHeartbeats 8000000 in
set_option maxRecDepth 100000 in
theorem permgroup_IsSubgroup.calls (k : Nat) (a0_0 : Int) (A0_1 : Option Addr) (c0_1 : Nat) (l0_1 : List (List Int)) (a1_0 : Int) (A1_1 : Option Addr) (c1_1 : Nat) (l1_1 : List (List Int)) (r1 : Bool) (r2 : Int) (w : World) (hr0_1 : Kd.C (Kd.slice 3 (Kd.int .i64)) w A0_1 l0_1.length l0_1) (hc0_1 : l0_1.length ≤ c0_1) (hr1_1 : Kd.C (Kd.slice 3 (Kd.int .i64)) w A1_1 l1_1.length l1_1) (hc1_1 : l1_1.length ≤ c1_1) (h : permgroup_IsSubgroup.f k a0_0 l0_1 a1_0 l1_1 = some (r1, r2)) :
  Calls Try.prog 75 #[.agg #[.int .i64 a0_0, .slice A0_1 l0_1.length c0_1], .agg #[.int .i64 a1_0, .slice A1_1 l1_1.length c1_1]] w fun e w' => e = .returned (.tuple #[.bool r1, .int .i64 r2]) ∧ Below w.heap.size w w' := by
 have hu := Try.underlying24
 have P0 := Aside0.mk hr0_1
 have L0 := Aside0.mk hc0_1
 have P1 := Aside0.mk hr1_1
 have L1 := Aside0.mk hc1_1
 unfold permgroup_IsSubgroup.f at h
 obtain ⟨t1, h1, h⟩ := Option.bind_eq_some_iff.1 h
 have E1 := Aside0.mk h1
 have X := Aside0.mk (show ((w.alloc (.cells #[.int .i64 a0_0, .slice A0_1 l0_1.length c0_1] 24)).alloc (.cells #[.int .i64 a1_0, .slice A1_1 l1_1.length c1_1] 24)).heap[w.heap.size]? = some (.cells #[.int .i64 a0_0, .slice A0_1 l0_1.length c0_1] 24) ∧ ((w.alloc (.cells #[.int .i64 a0_0, .slice A0_1 l0_1.length c0_1] 24)).alloc (.cells #[.int .i64 a1_0, .slice A1_1 l1_1.length c1_1] 24)).heap[w.heap.size + 1]? = some (.cells #[.int .i64 a1_0, .slice A1_1 l1_1.length c1_1] 24) from by
  have h1 := blk_new w (.cells #[.int .i64 a0_0, .slice A0_1 l0_1.length c0_1] 24)
  have h2 := blk_new (w.alloc (.cells #[.int .i64 a0_0, .slice A0_1 l0_1.length c0_1] 24)) (.cells #[.int .i64 a1_0, .slice A1_1 l1_1.length c1_1] 24)
  rw [show (w.alloc (.cells #[.int .i64 a0_0, .slice A0_1 l0_1.length c0_1] 24)).heap.size = w.heap.size + 1 by simp] at h2
  exact ⟨((below_alloc (Below.refl _ _) _).block _ (blk_lt h1)).trans h1, h2⟩)
 have B := Aside0.mk (show Below w.heap.size w ((w.alloc (.cells #[.int .i64 a0_0, .slice A0_1 l0_1.length c0_1] 24)).alloc (.cells #[.int .i64 a1_0, .slice A1_1 l1_1.length c1_1] 24)) from below_alloc (below_alloc (Below.refl _ _) _) _)
 clear hr0_1 hc0_1 hr1_1 hc1_1 h1
 go_enter Try.func75, Try.ntmps75
 by_cases c1 : t1 = 0
 ·subst c1
  rw [if_pos rfl] at h
  obtain ⟨t2, h2, h⟩ := Option.bind_eq_some_iff.1 h
  obtain ⟨rfl, rfl⟩ := Prod.mk.inj (Option.some.inj h)
  have E2 := Aside0.mk h2
  clear h2 h
  go_wp2_with (first
   | (go_at_call 85;(refine (permgroup_two.calls k a0_0 A0_1 c0_1 l0_1 a1_0 A1_1 c1_1 l1_1 0 _ (Kd.C_below P0.out (below_step B.out bel0)) L0.out (Kd.C_below P1.out (below_step B.out bel0)) L1.out E1.out).mono ?_);rintro e1 w1 ⟨rfl, hb⟩;have hq := below_step (w := ((w.alloc (.cells #[.int .i64 a0_0, .slice A0_1 l0_1.length c0_1] 24)).alloc (.cells #[.int .i64 a1_0, .slice A1_1 l1_1.length c1_1] 24))) bel0 hb;have B1 := Aside0.mk (below_step B.out hq);have X1 := Aside0.mk (And.intro ((hq.block _ (blk_lt X.out.1)).trans X.out.1) ((hq.block _ (blk_lt X.out.2)).trans X.out.2));have x10 := blk_cell X1.out.1 0;have x11 := blk_cell X1.out.1 1;have y10 := blk_cell X1.out.2 0;have y11 := blk_cell X1.out.2 1;have z1 := blk_lt X1.out.1;have v1 := blk_lt X1.out.2;clear hb hq)
   | (go_at_call 86;(refine (permgroup_sub.calls a0_0 A0_1 c0_1 l0_1 a1_0 A1_1 c1_1 l1_1 t2 _ (Kd.C_below P0.out (below_step B1.out bel0)) L0.out (Kd.C_below P1.out (below_step B1.out bel0)) L1.out E2.out).mono ?_);rintro e2 w2 ⟨rfl, hb⟩;have hq := below_step (w := w1) bel0 hb;have B2 := Aside0.mk (below_step B1.out hq);have X2 := Aside0.mk (And.intro ((hq.block _ (blk_lt X1.out.1)).trans X1.out.1) ((hq.block _ (blk_lt X1.out.2)).trans X1.out.2));have x20 := blk_cell X2.out.1 0;have x21 := blk_cell X2.out.1 1;have y20 := blk_cell X2.out.2 0;have y21 := blk_cell X2.out.2 1;have z2 := blk_lt X2.out.1;have v2 := blk_lt X2.out.2;clear hb hq))
  go_ret2
  exact ⟨rfl, B2.out⟩
 ·rw [if_neg c1] at h
  obtain ⟨rfl, rfl⟩ := Prod.mk.inj (Option.some.inj h)
  have n1 : (t1 == 0) = false := beq_eq_false_iff_ne.mpr c1
  have m1 : (t1 != 0) = true := bne_iff_ne.mpr c1
  clear h c1
  go_wp2_with (go_at_call 85;(refine (permgroup_two.calls k a0_0 A0_1 c0_1 l0_1 a1_0 A1_1 c1_1 l1_1 t1 _ (Kd.C_below P0.out (below_step B.out bel0)) L0.out (Kd.C_below P1.out (below_step B.out bel0)) L1.out E1.out).mono ?_);rintro e1 w1 ⟨rfl, hb⟩;have hq := below_step (w := ((w.alloc (.cells #[.int .i64 a0_0, .slice A0_1 l0_1.length c0_1] 24)).alloc (.cells #[.int .i64 a1_0, .slice A1_1 l1_1.length c1_1] 24))) bel0 hb;have B1 := Aside0.mk (below_step B.out hq);have X1 := Aside0.mk (And.intro ((hq.block _ (blk_lt X.out.1)).trans X.out.1) ((hq.block _ (blk_lt X.out.2)).trans X.out.2));have x10 := blk_cell X1.out.1 0;have x11 := blk_cell X1.out.1 1;have y10 := blk_cell X1.out.2 0;have y11 := blk_cell X1.out.2 1;have z1 := blk_lt X1.out.1;have v1 := blk_lt X1.out.2;clear hb hq)
  go_ret2
  exact ⟨rfl, B1.out⟩
end Go.Proofs.Ytaaaljifclecnaa.PCo
