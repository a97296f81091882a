-- Printed.
import Derived.Test.YtmbldnoepjmhhaaZPermgroupFormsMg0
import Derived.Test.YtmbldnoepjmhhaaZPermgroupFormsPBsx0
namespace Go.Proofs.Ytmbldnoepjmhhaa.PBs
open Go.RowKit Go.Proofs.YtmbldnoepjmhhaaW.PrintWords Go.Proofs.YtmbldnoepjmhhaaW.PrintLast Go.Proofs.YtmbldnoepjmhhaaW.PrintMore
attribute [local go_sem] max2_int min2_int max_two min_two max_three min_three max_four min_four
set_option linter.unusedVariables false
set_option linter.unusedSimpArgs false
def bsgs_Mul.l0 : Nat → List Int → List Int → List Int → Int → Int → Option (List Int)
 | 0, _, _, _, _, _ => none
 | k + 1, x1, x5, x11, x12, x13 => if x13 < x12 then (if 0 ≤ x13 then (if x13 < (x11.length : Int) then (if 0 ≤ (rd x11 x13) then (if (rd x11 x13) < (x1.length : Int) then (if x13 < (x5.length : Int) then (bsgs_Mul.l0 k x1 (x5.set (x13 : Int).toNat (rd x1 (rd x11 x13))) x11 x12 (wrap64 (x13 + 1))) else (none)) else (none)) else (none)) else (none)) else (none)) else (some x5)
def bsgs_Mul.f (k : Nat) (l0 : List Int) (l1 : List Int) : Option (List Int) := if 0 ≤ (l0.length : Int) then (if ((l0.length : Int) : Int).toNat ≤ 35184372088832 then (bsgs_Mul.l0 k l1 (List.replicate ((l0.length : Int) : Int).toNat 0) l0 (l0.length : Int) 0) else (none)) else (none)
set_option maxHeartbeats 8000000 in
set_option maxRecDepth 100000 in
theorem bsgs_Mul.calls (k : Nat) (A0 : Option Addr) (c0 : Nat) (l0 : List Int) (A1 : Option Addr) (c1 : Nat) (l1 : List Int) (r : List Int) (w : World) (hr0 : Kd.C (Kd.int .i64) w A0 l0.length l0) (hc0 : l0.length ≤ c0) (hr1 : Kd.C (Kd.int .i64) w A1 l1.length l1) (hc1 : l1.length ≤ c1) (h : bsgs_Mul.f k l0 l1 = some r) :
  Calls Try.prog 131 #[.slice A0 l0.length c0, .slice A1 l1.length c1] w fun e w' => ∃ v0_ : Value, e = .returned (v0_) ∧ Kd.R (Kd.int .i64) 3 w' w.heap.size (fun _ => True) v0_ r ∧ Below w.heap.size w w' := by
 have HR0 := Aside0.mk hr0
 have HC0 := Aside0.mk hc0
 clear hr0 hc0
 have HR1 := Aside0.mk hr1
 have HC1 := Aside0.mk hc1
 clear hr1 hc1
 have HB := Aside0.mk (Below.refl w.heap.size w)
 have H : (if 0 ≤ (l0.length : Int) then (if ((l0.length : Int) : Int).toNat ≤ 35184372088832 then (bsgs_Mul.l0 k l1 (List.replicate ((l0.length : Int) : Int).toNat 0) l0 (l0.length : Int) 0) else (none)) else (none)) = some r := h
 clear h
 by_cases c3 : 0 ≤ (l0.length : Int)
 ·rw [if_pos c3] at H
  have c3b0 := eq_true c3
  have c3b1 : decide (0 ≤ (l0.length : Int)) = true := decide_eq_true c3
  clear c3
  by_cases c4 : ((l0.length : Int) : Int).toNat ≤ 35184372088832
  ·rw [if_pos c4] at H
   have c4b0 := eq_true c4
   have c4b1 : decide (((l0.length : Int) : Int).toNat ≤ 35184372088832) = true := decide_eq_true c4
   clear c4
   obtain ⟨y101, hy101⟩ : ∃ y_ : List Int, y_ = (List.replicate ((l0.length : Int) : Int).toNat 0) := ⟨_, rfl⟩
   replace H : (bsgs_Mul.l0 k l1 y101 l0 (l0.length : Int) 0) = some r := by first | (rw [hy101];with_reducible exact H) | (have H2_ := (Option.bind_some _ _).symm.trans H;rw [hy101];with_reducible exact H2_) | (have H2_ := (Option.bind_some _ _).symm.trans H;with_reducible exact H2_) | with_reducible exact H | (rw [hy101];exact H) | exact H
   have Ny101 := Aside0.mk hy101
   clear hy101
   have H' := Aside0.mk H
   clear H
   go_enter Try.func131, Try.ntmps131
   go_wp2_with (first|((with_reducible refine gate_dst (N := 10) rfl ?_);refine Kd.R_make (Kd.int .i64) _ 3 rfl (N := 10) rfl 49 _ _ rfl (l0.length : Int) rfl rfl Try.underlying49 (.int .i64 0) 8 info3 rfl (by decide) (by omega) 0 (ok := fun _ => True) (okp := fun _ => True) rfl (fun _ hk => hk) trivial (of_decide_eq_true (by assumption)) (Nat.le_trans (Nat.mul_le_mul_right _ (of_decide_eq_true (by assumption) : (l0.length : Int).toNat ≤ 35184372088832)) (by omega)) (Below.refl _ _) (Nat.le_refl _) ?_;intro v102 w5 ho6 hb hg_ hnew_;clear hg_ hnew_;(first|rw [← Ny101.out] at ho6 | (simp only [Int.reduceToNat] at ho6;rw [← Ny101.out] at ho6));have n0_ := Aside0.mk (Kd.R_lower ho6 (below_size (bel HB.out)));have n1_ := Aside0.mk (below_step (bel HB.out) hb);clear HB;have HO103 := n0_;have HB := n1_;clear n0_ n1_;clear hb ho6))
   go_loopg [13] k (fun kq v13 w' => ∃ (x5_1 : List Int) (x13_1 : Int), v13 = .int .i64 x13_1 ∧ Aside0 (bsgs_Mul.l0 kq l1 x5_1 l0 (l0.length : Int) x13_1 = some r) ∧ Aside0 (kq ≤ k) ∧ Aside0 (Kd.R (Kd.int .i64) 3 w' w.heap.size (fun _ => True) v102 x5_1) ∧ Aside0 (Below w.heap.size w w'))
   case atStart => exact ⟨(y101), (0), (by first | rfl | (simp;done) | (simp [*];done)), H', ⟨Nat.le_refl _⟩, ⟨Rst HO103.out⟩, ⟨bel HB.out⟩⟩
   case round =>
    clear H'
    try clear c1
    try clear p2
    try clear c3
    try clear c3b0
    try clear c3b1
    try clear c4
    try clear c4b0
    try clear c4b1
    obtain ⟨x5_1, x13_1, rfl, HA, HK1, HO_5, HB⟩ := hrel
    cases gk with
    | zero => exact absurd HA.out (by simp [bsgs_Mul.l0])
    | succ k1 =>
     have H := HA.out
     clear HA
     simp only [bsgs_Mul.l0] at H
     by_cases c7 : x13_1 < (l0.length : Int)
     ·rw [if_pos c7] at H
      have c7b0 : decide (x13_1 < (l0.length : Int)) = true := decide_eq_true c7
      clear c7
      by_cases c8 : 0 ≤ x13_1
      ·rw [if_pos c8] at H
       have c8b0 : decide (0 ≤ x13_1) = true := decide_eq_true c8
       clear c8
       by_cases c9 : x13_1 < (l0.length : Int)
       ·rw [if_pos c9] at H
        have c9b0 : decide (x13_1 < (l0.length : Int)) = true := decide_eq_true c9
        clear c9
        by_cases c10 : 0 ≤ (rd l0 x13_1)
        ·rw [if_pos c10] at H
         have c10b0 : decide (0 ≤ (rd l0 x13_1)) = true := decide_eq_true c10
         clear c10
         by_cases c11 : (rd l0 x13_1) < (l1.length : Int)
         ·rw [if_pos c11] at H
          have c11b0 : decide ((rd l0 x13_1) < (l1.length : Int)) = true := decide_eq_true c11
          clear c11
          by_cases c12 : x13_1 < (x5_1.length : Int)
          ·rw [if_pos c12] at H
           have c12b0 : decide (x13_1 < (x5_1.length : Int)) = true := decide_eq_true c12
           clear c12
           obtain ⟨y106, hy106⟩ : ∃ y_ : List Int, y_ = (x5_1.set (x13_1 : Int).toNat (rd l1 (rd l0 x13_1))) := ⟨_, rfl⟩
           replace H : (bsgs_Mul.l0 k1 l1 y106 l0 (l0.length : Int) (wrap64 (x13_1 + 1))) = some r := by first | (rw [hy106];with_reducible exact H) | (have H2_ := (Option.bind_some _ _).symm.trans H;rw [hy106];with_reducible exact H2_) | (have H2_ := (Option.bind_some _ _).symm.trans H;with_reducible exact H2_) | with_reducible exact H | (rw [hy106];exact H) | exact H
           have Ny106 := Aside0.mk hy106
           clear hy106
           have H' := Aside0.mk H
           clear H
           have p104 : 0 ≤ (x13_1 : Int) := of_decide_eq_true (by assumption)
           have q104 : x13_1 < (l0.length : Int) := of_decide_eq_true (by assumption)
           obtain ⟨ad104, e104, hx104_0⟩ := Kd.at_int HR0.out x13_1 p104 q104
           cases e104
           try (replace hx104_0 := (HB.out.cell (World.block_lt_of_cell? w _ hx104_0)).trans hx104_0)
           replace p104 := eq_true p104
           replace q104 := eq_true q104
           have p105 : 0 ≤ ((rd l0 x13_1) : Int) := of_decide_eq_true (by assumption)
           have q105 : (rd l0 x13_1) < (l1.length : Int) := of_decide_eq_true (by assumption)
           obtain ⟨ad105, e105, hx105_0⟩ := Kd.at_int HR1.out (rd l0 x13_1) p105 q105
           cases e105
           try (replace hx105_0 := (HB.out.cell (World.block_lt_of_cell? w _ hx105_0)).trans hx105_0)
           replace p105 := eq_true p105
           replace q105 := eq_true q105
           have p13 : 0 ≤ (x13_1 : Int) := of_decide_eq_true (by assumption)
           have q13 : (x13_1 : Int) < ((x5_1.length : Int) : Int) := of_decide_eq_true (by assumption)
           obtain ⟨go13, co13, eo13, gb13, gl13, cl13, HG13⟩ := Kd.R_form HO_5.out (by omega)
           (first|cases eo13 | (injection eo13 with ea_ en_ ec_;(first|subst ea_ | (injection ea_ with ea_;subst ea_));subst ec_;clear en_))
           have GB13 := Aside0.mk gb13
           have GG13 := Aside0.mk HG13
           clear gb13 gl13 HG13
           obtain ⟨hx13_0, hf13_0⟩ := Kd.R_celln 0 HO_5.out (x13_1 : Int) p13 q13
           replace p13 := eq_true p13
           replace q13 := eq_true q13
           have HP14 := Kd.R_putg HO_5.out (x13_1 : Int) (rd l1 (rd l0 x13_1))
           go_wp2_with (first|((with_reducible refine gate_store (t := 3) (p := 24) rfl ?_);refine store_event (t := 3) (p := 24) (v := ?vo_w15) (w1 := (wr.setCell ⟨go13, (x13_1 : Int).toNat, none⟩ (.int .i64 (rd l1 (rd l0 x13_1))))) ?hg ?ho ?hn ?hr ?_;(case ho => rfl);(case hg => rfl);(case hn => rfl);(case hr => first | (go_simp;done) | (go_simp;rfl));intro w15 hw;have hg : wr.grownBy w15 (some go13) := (by rw [hw];exact HP14.2);have hp_ : Kd.R (Kd.int .i64) 3 w15 w.heap.size (fun _ => True) (.slice (some ⟨go13, 0, none⟩) x5_1.length co13) y106 := (by rw [hw, Ny106.out];exact HP14.1);clear HP14;have n0_ := Aside0.mk (hp_);have n1_ := Aside0.mk ((by rw [hw];exact below_set (HB.out) GB13.out : Below w.heap.size w w15));clear HO_5;clear HB;have HO_5 := n0_;have HB := n1_;clear n0_ n1_;clear hg hw hp_))
           go_roundg k1
           case measure => have := HK1.out;omega
           case rel => exact ⟨(y106), (wrap64 (x13_1 + 1)), (by first | rfl | (simp;done) | (simp [*];done)), H', ⟨by have := HK1.out;omega⟩, ⟨Rst HO_5.out⟩, ⟨bel HB.out⟩⟩
          ·rw [if_neg c12] at H
           exact absurd H (by simp)
         ·rw [if_neg c11] at H
          exact absurd H (by simp)
        ·rw [if_neg c10] at H
         exact absurd H (by simp)
       ·rw [if_neg c9] at H
        exact absurd H (by simp)
      ·rw [if_neg c8] at H
       exact absurd H (by simp)
     ·rw [if_neg c7] at H
      have c7b0 : decide (x13_1 < (l0.length : Int)) = false := decide_eq_false c7
      clear c7
      obtain rfl := Option.some.inj H
      go_wp2
      go_ret
      exact ⟨_, by first | rfl | (simp [errW_none, errW_some] <;> rfl) | (simp [*, errW_none, errW_some] <;> rfl), Rst HO_5.out, bel HB.out⟩
  ·rw [if_neg c4] at H
   exact absurd H (by simp)
 ·rw [if_neg c3] at H
  exact absurd H (by simp)
def bsgs_Inv.l0 : Nat → List Int → List Int → Int → Int → Option (List Int)
 | 0, _, _, _, _ => none
 | k + 1, x3, x9, x10, x11 => if x11 < x10 then (if 0 ≤ x11 then (if x11 < (x9.length : Int) then (if 0 ≤ (rd x9 x11) then (if (rd x9 x11) < (x3.length : Int) then (bsgs_Inv.l0 k (x3.set ((rd x9 x11) : Int).toNat x11) x9 x10 (wrap64 (x11 + 1))) else (none)) else (none)) else (none)) else (none)) else (some x3)
def bsgs_Inv.f (k : Nat) (l0 : List Int) : Option (List Int) := if 0 ≤ (l0.length : Int) then (if ((l0.length : Int) : Int).toNat ≤ 35184372088832 then (bsgs_Inv.l0 k (List.replicate ((l0.length : Int) : Int).toNat 0) l0 (l0.length : Int) 0) else (none)) else (none)
set_option maxHeartbeats 8000000 in
set_option maxRecDepth 100000 in
theorem bsgs_Inv.calls (k : Nat) (A0 : Option Addr) (c0 : Nat) (l0 : List Int) (r : List Int) (w : World) (hr0 : Kd.C (Kd.int .i64) w A0 l0.length l0) (hc0 : l0.length ≤ c0) (h : bsgs_Inv.f k l0 = some r) :
  Calls Try.prog 135 #[.slice A0 l0.length c0] w fun e w' => ∃ v0_ : Value, e = .returned (v0_) ∧ Kd.R (Kd.int .i64) 3 w' w.heap.size (fun _ => True) v0_ r ∧ Below w.heap.size w w' := by
 have HR0 := Aside0.mk hr0
 have HC0 := Aside0.mk hc0
 clear hr0 hc0
 have HB := Aside0.mk (Below.refl w.heap.size w)
 have H : (if 0 ≤ (l0.length : Int) then (if ((l0.length : Int) : Int).toNat ≤ 35184372088832 then (bsgs_Inv.l0 k (List.replicate ((l0.length : Int) : Int).toNat 0) l0 (l0.length : Int) 0) else (none)) else (none)) = some r := h
 clear h
 by_cases c2 : 0 ≤ (l0.length : Int)
 ·rw [if_pos c2] at H
  have c2b0 := eq_true c2
  have c2b1 : decide (0 ≤ (l0.length : Int)) = true := decide_eq_true c2
  clear c2
  by_cases c3 : ((l0.length : Int) : Int).toNat ≤ 35184372088832
  ·rw [if_pos c3] at H
   have c3b0 := eq_true c3
   have c3b1 : decide (((l0.length : Int) : Int).toNat ≤ 35184372088832) = true := decide_eq_true c3
   clear c3
   obtain ⟨y107, hy107⟩ : ∃ y_ : List Int, y_ = (List.replicate ((l0.length : Int) : Int).toNat 0) := ⟨_, rfl⟩
   replace H : (bsgs_Inv.l0 k y107 l0 (l0.length : Int) 0) = some r := by first | (rw [hy107];with_reducible exact H) | (have H2_ := (Option.bind_some _ _).symm.trans H;rw [hy107];with_reducible exact H2_) | (have H2_ := (Option.bind_some _ _).symm.trans H;with_reducible exact H2_) | with_reducible exact H | (rw [hy107];exact H) | exact H
   have Ny107 := Aside0.mk hy107
   clear hy107
   have H' := Aside0.mk H
   clear H
   go_enter Try.func135, Try.ntmps135
   go_wp2_with (first|((with_reducible refine gate_dst (N := 8) rfl ?_);refine Kd.R_make (Kd.int .i64) _ 3 rfl (N := 8) rfl 49 _ _ rfl (l0.length : Int) rfl rfl Try.underlying49 (.int .i64 0) 8 info3 rfl (by decide) (by omega) 0 (ok := fun _ => True) (okp := fun _ => True) rfl (fun _ hk => hk) trivial (of_decide_eq_true (by assumption)) (Nat.le_trans (Nat.mul_le_mul_right _ (of_decide_eq_true (by assumption) : (l0.length : Int).toNat ≤ 35184372088832)) (by omega)) (Below.refl _ _) (Nat.le_refl _) ?_;intro v108 w4 ho5 hb hg_ hnew_;clear hg_ hnew_;(first|rw [← Ny107.out] at ho5 | (simp only [Int.reduceToNat] at ho5;rw [← Ny107.out] at ho5));have n0_ := Aside0.mk (Kd.R_lower ho5 (below_size (bel HB.out)));have n1_ := Aside0.mk (below_step (bel HB.out) hb);clear HB;have HO109 := n0_;have HB := n1_;clear n0_ n1_;clear hb ho5))
   go_loopg [11] k (fun kq v11 w' => ∃ (x3_1 : List Int) (x11_1 : Int), v11 = .int .i64 x11_1 ∧ Aside0 (bsgs_Inv.l0 kq x3_1 l0 (l0.length : Int) x11_1 = some r) ∧ Aside0 (kq ≤ k) ∧ Aside0 (Kd.R (Kd.int .i64) 3 w' w.heap.size (fun _ => True) v108 x3_1) ∧ Aside0 (Below w.heap.size w w'))
   case atStart => exact ⟨(y107), (0), (by first | rfl | (simp;done) | (simp [*];done)), H', ⟨Nat.le_refl _⟩, ⟨Rst HO109.out⟩, ⟨bel HB.out⟩⟩
   case round =>
    clear H'
    try clear c1
    try clear c2
    try clear c2b0
    try clear c2b1
    try clear p2
    try clear c3
    try clear c3b0
    try clear c3b1
    obtain ⟨x3_1, x11_1, rfl, HA, HK1, HO_3, HB⟩ := hrel
    cases gk with
    | zero => exact absurd HA.out (by simp [bsgs_Inv.l0])
    | succ k1 =>
     have H := HA.out
     clear HA
     simp only [bsgs_Inv.l0] at H
     by_cases c6 : x11_1 < (l0.length : Int)
     ·rw [if_pos c6] at H
      have c6b0 : decide (x11_1 < (l0.length : Int)) = true := decide_eq_true c6
      clear c6
      by_cases c7 : 0 ≤ x11_1
      ·rw [if_pos c7] at H
       have c7b0 : decide (0 ≤ x11_1) = true := decide_eq_true c7
       clear c7
       by_cases c8 : x11_1 < (l0.length : Int)
       ·rw [if_pos c8] at H
        have c8b0 : decide (x11_1 < (l0.length : Int)) = true := decide_eq_true c8
        clear c8
        by_cases c9 : 0 ≤ (rd l0 x11_1)
        ·rw [if_pos c9] at H
         have c9b0 : decide (0 ≤ (rd l0 x11_1)) = true := decide_eq_true c9
         clear c9
         by_cases c10 : (rd l0 x11_1) < (x3_1.length : Int)
         ·rw [if_pos c10] at H
          have c10b0 : decide ((rd l0 x11_1) < (x3_1.length : Int)) = true := decide_eq_true c10
          clear c10
          obtain ⟨y111, hy111⟩ : ∃ y_ : List Int, y_ = (x3_1.set ((rd l0 x11_1) : Int).toNat x11_1) := ⟨_, rfl⟩
          replace H : (bsgs_Inv.l0 k1 y111 l0 (l0.length : Int) (wrap64 (x11_1 + 1))) = some r := by first | (rw [hy111];with_reducible exact H) | (have H2_ := (Option.bind_some _ _).symm.trans H;rw [hy111];with_reducible exact H2_) | (have H2_ := (Option.bind_some _ _).symm.trans H;with_reducible exact H2_) | with_reducible exact H | (rw [hy111];exact H) | exact H
          have Ny111 := Aside0.mk hy111
          clear hy111
          have H' := Aside0.mk H
          clear H
          have p110 : 0 ≤ (x11_1 : Int) := of_decide_eq_true (by assumption)
          have q110 : x11_1 < (l0.length : Int) := of_decide_eq_true (by assumption)
          obtain ⟨ad110, e110, hx110_0⟩ := Kd.at_int HR0.out x11_1 p110 q110
          cases e110
          try (replace hx110_0 := (HB.out.cell (World.block_lt_of_cell? w _ hx110_0)).trans hx110_0)
          replace p110 := eq_true p110
          replace q110 := eq_true q110
          have p11 : 0 ≤ ((rd l0 x11_1) : Int) := of_decide_eq_true (by assumption)
          have q11 : ((rd l0 x11_1) : Int) < ((x3_1.length : Int) : Int) := of_decide_eq_true (by assumption)
          obtain ⟨go11, co11, eo11, gb11, gl11, cl11, HG11⟩ := Kd.R_form HO_3.out (by omega)
          (first|cases eo11 | (injection eo11 with ea_ en_ ec_;(first|subst ea_ | (injection ea_ with ea_;subst ea_));subst ec_;clear en_))
          have GB11 := Aside0.mk gb11
          have GG11 := Aside0.mk HG11
          clear gb11 gl11 HG11
          obtain ⟨hx11_0, hf11_0⟩ := Kd.R_celln 0 HO_3.out ((rd l0 x11_1) : Int) p11 q11
          replace p11 := eq_true p11
          replace q11 := eq_true q11
          have HP12 := Kd.R_putg HO_3.out ((rd l0 x11_1) : Int) x11_1
          go_wp2_with (first|((with_reducible refine gate_store (t := 3) (p := 19) rfl ?_);refine store_event (t := 3) (p := 19) (v := ?vo_w13) (w1 := (wr.setCell ⟨go11, ((rd l0 x11_1) : Int).toNat, none⟩ (.int .i64 x11_1))) ?hg ?ho ?hn ?hr ?_;(case ho => rfl);(case hg => rfl);(case hn => rfl);(case hr => first | (go_simp;done) | (go_simp;rfl));intro w13 hw;have hg : wr.grownBy w13 (some go11) := (by rw [hw];exact HP12.2);have hp_ : Kd.R (Kd.int .i64) 3 w13 w.heap.size (fun _ => True) (.slice (some ⟨go11, 0, none⟩) x3_1.length co11) y111 := (by rw [hw, Ny111.out];exact HP12.1);clear HP12;have n0_ := Aside0.mk (hp_);have n1_ := Aside0.mk ((by rw [hw];exact below_set (HB.out) GB11.out : Below w.heap.size w w13));clear HO_3;clear HB;have HO_3 := n0_;have HB := n1_;clear n0_ n1_;clear hg hw hp_))
          go_roundg k1
          case measure => have := HK1.out;omega
          case rel => exact ⟨(y111), (wrap64 (x11_1 + 1)), (by first | rfl | (simp;done) | (simp [*];done)), H', ⟨by have := HK1.out;omega⟩, ⟨Rst HO_3.out⟩, ⟨bel HB.out⟩⟩
         ·rw [if_neg c10] at H
          exact absurd H (by simp)
        ·rw [if_neg c9] at H
         exact absurd H (by simp)
       ·rw [if_neg c8] at H
        exact absurd H (by simp)
      ·rw [if_neg c7] at H
       exact absurd H (by simp)
     ·rw [if_neg c6] at H
      have c6b0 : decide (x11_1 < (l0.length : Int)) = false := decide_eq_false c6
      clear c6
      obtain rfl := Option.some.inj H
      go_wp2
      go_ret
      exact ⟨_, by first | rfl | (simp [errW_none, errW_some] <;> rfl) | (simp [*, errW_none, errW_some] <;> rfl), Rst HO_3.out, bel HB.out⟩
  ·rw [if_neg c3] at H
   exact absurd H (by simp)
 ·rw [if_neg c2] at H
  exact absurd H (by simp)
def bsgs_Identity.l0 : Nat → List Int → Int → Int → Option (List Int)
 | 0, _, _, _ => none
 | k + 1, x3, x8, x9 => if x9 < x8 then (if 0 ≤ x9 then (if x9 < (x3.length : Int) then (bsgs_Identity.l0 k (x3.set (x9 : Int).toNat x9) x8 (wrap64 (x9 + 1))) else (none)) else (none)) else (some x3)
def bsgs_Identity.f (k : Nat) (a0 : Int) : Option (List Int) := if 0 ≤ a0 then (if (a0 : Int).toNat ≤ 35184372088832 then ((some (List.replicate (a0 : Int).toNat 0 : List Int)).bind fun y112 => (bsgs_Identity.l0 k y112 (y112.length : Int) 0)) else (none)) else (none)
set_option maxHeartbeats 8000000 in
set_option maxRecDepth 100000 in
theorem bsgs_Identity.calls (k : Nat) (a0 : Int) (r : List Int) (w : World) (h : bsgs_Identity.f k a0 = some r) :
  Calls Try.prog 102 #[.int .i64 a0] w fun e w' => ∃ v0_ : Value, e = .returned (v0_) ∧ Kd.R (Kd.int .i64) 3 w' w.heap.size (fun _ => True) v0_ r ∧ Below w.heap.size w w' := by
 have HB := Aside0.mk (Below.refl w.heap.size w)
 have H : (if 0 ≤ a0 then (if (a0 : Int).toNat ≤ 35184372088832 then ((some (List.replicate (a0 : Int).toNat 0 : List Int)).bind fun y112 => (bsgs_Identity.l0 k y112 (y112.length : Int) 0)) else (none)) else (none)) = some r := h
 clear h
 by_cases c2 : 0 ≤ a0
 ·rw [if_pos c2] at H
  have c2b0 := eq_true c2
  have c2b1 : decide (0 ≤ a0) = true := decide_eq_true c2
  clear c2
  by_cases c3 : (a0 : Int).toNat ≤ 35184372088832
  ·rw [if_pos c3] at H
   have c3b0 := eq_true c3
   have c3b1 : decide ((a0 : Int).toNat ≤ 35184372088832) = true := decide_eq_true c3
   clear c3
   obtain ⟨y112, hy112⟩ : ∃ y_ : List Int, y_ = (List.replicate (a0 : Int).toNat 0) := ⟨_, rfl⟩
   replace H : (bsgs_Identity.l0 k y112 (y112.length : Int) 0) = some r := by first | (rw [hy112];with_reducible exact H) | (have H2_ := (Option.bind_some _ _).symm.trans H;rw [hy112];with_reducible exact H2_) | (have H2_ := (Option.bind_some _ _).symm.trans H;with_reducible exact H2_) | with_reducible exact H | (rw [hy112];exact H) | exact H
   have Ny112 := Aside0.mk hy112
   clear hy112
   have H' := Aside0.mk H
   clear H
   go_enter Try.func102, Try.ntmps102
   go_wp2_with (first|((with_reducible refine gate_dst (N := 6) rfl ?_);refine Kd.R_make (Kd.int .i64) _ 3 rfl (N := 6) rfl 49 _ _ rfl a0 rfl rfl Try.underlying49 (.int .i64 0) 8 info3 rfl (by decide) (by omega) 0 (ok := fun _ => True) (okp := fun _ => True) rfl (fun _ hk => hk) trivial (of_decide_eq_true (by assumption)) (Nat.le_trans (Nat.mul_le_mul_right _ (of_decide_eq_true (by assumption) : a0.toNat ≤ 35184372088832)) (by omega)) (Below.refl _ _) (Nat.le_refl _) ?_;intro v113 w4 ho5 hb hg_ hnew_;clear hg_ hnew_;(first|rw [← Ny112.out] at ho5 | (simp only [Int.reduceToNat] at ho5;rw [← Ny112.out] at ho5));have n0_ := Aside0.mk (Kd.R_lower ho5 (below_size (bel HB.out)));have n1_ := Aside0.mk (below_step (bel HB.out) hb);clear HB;have HO114 := n0_;have HB := n1_;clear n0_ n1_;clear hb ho5;obtain ⟨Ao6, co6, eo6⟩ := Kd.R_slice HO114.out;subst eo6))
   go_loopg [9] k (fun kq v9 w' => ∃ (x3_1 : List Int) (x9_1 : Int), v9 = .int .i64 x9_1 ∧ Aside0 (bsgs_Identity.l0 kq x3_1 (y112.length : Int) x9_1 = some r) ∧ Aside0 (kq ≤ k) ∧ Aside0 (Kd.R (Kd.int .i64) 3 w' w.heap.size (fun _ => True) (.slice Ao6 y112.length co6) x3_1) ∧ Aside0 (Below w.heap.size w w'))
   case atStart => exact ⟨(y112), (0), (by first | rfl | (simp;done) | (simp [*];done)), H', ⟨Nat.le_refl _⟩, ⟨Rst HO114.out⟩, ⟨bel HB.out⟩⟩
   case round =>
    clear H'
    try clear c1
    try clear c2
    try clear c2b0
    try clear c2b1
    try clear p2
    try clear c3
    try clear c3b0
    try clear c3b1
    obtain ⟨x3_1, x9_1, rfl, HA, HK1, HO_3, HB⟩ := hrel
    have hl3_1 := (Kd.R_reads' HO_3.out).1
    rw [hl3_1] at HO_3
    (try simp only [hl3_1])
    cases gk with
    | zero => exact absurd HA.out (by simp [bsgs_Identity.l0])
    | succ k1 =>
     have H := HA.out
     clear HA
     simp only [bsgs_Identity.l0] at H
     by_cases c7 : x9_1 < (y112.length : Int)
     ·rw [if_pos c7] at H
      have c7b0 : decide (x9_1 < (y112.length : Int)) = true := decide_eq_true c7
      have c7b0l := c7b0
      try simp only [hl3_1] at c7b0l
      clear c7
      by_cases c8 : 0 ≤ x9_1
      ·rw [if_pos c8] at H
       have c8b0 : decide (0 ≤ x9_1) = true := decide_eq_true c8
       clear c8
       by_cases c9 : x9_1 < (x3_1.length : Int)
       ·rw [if_pos c9] at H
        have c9b0 : decide (x9_1 < (x3_1.length : Int)) = true := decide_eq_true c9
        have c9b0l := c9b0
        try simp only [hl3_1] at c9b0l
        clear c9
        obtain ⟨y115, hy115⟩ : ∃ y_ : List Int, y_ = (x3_1.set (x9_1 : Int).toNat x9_1) := ⟨_, rfl⟩
        replace H : (bsgs_Identity.l0 k1 y115 (y112.length : Int) (wrap64 (x9_1 + 1))) = some r := by first | (rw [hy115];with_reducible exact H) | (have H2_ := (Option.bind_some _ _).symm.trans H;rw [hy115];with_reducible exact H2_) | (have H2_ := (Option.bind_some _ _).symm.trans H;with_reducible exact H2_) | with_reducible exact H | (rw [hy115];exact H) | exact H
        have Ny115 := Aside0.mk hy115
        clear hy115
        have H' := Aside0.mk H
        clear H
        have p10 : 0 ≤ (x9_1 : Int) := of_decide_eq_true (by assumption)
        have q10 : (x9_1 : Int) < ((x3_1.length : Int) : Int) := of_decide_eq_true (by assumption)
        obtain ⟨go10, co10, eo10, gb10, gl10, cl10, HG10⟩ := Kd.R_form HO_3.out (by omega)
        (first|cases eo10 | (injection eo10 with ea_ en_ ec_;(first|subst ea_ | (injection ea_ with ea_;subst ea_));subst ec_;clear en_))
        have GB10 := Aside0.mk gb10
        have GG10 := Aside0.mk HG10
        clear gb10 gl10 HG10
        obtain ⟨hx10_0, hf10_0⟩ := Kd.R_celln 0 HO_3.out (x9_1 : Int) p10 q10
        replace p10 := eq_true p10
        replace q10 := eq_true q10
        have HP11 := Kd.R_putg HO_3.out (x9_1 : Int) x9_1
        go_wp2_with (first|((with_reducible refine gate_store (t := 3) (p := 15) rfl ?_);refine store_event (t := 3) (p := 15) (v := ?vo_w12) (w1 := (wr.setCell ⟨go10, (x9_1 : Int).toNat, none⟩ (.int .i64 x9_1))) ?hg ?ho ?hn ?hr ?_;(case ho => rfl);(case hg => rfl);(case hn => rfl);(case hr => first | (go_simp;done) | (go_simp;rfl));intro w12 hw;have hg : wr.grownBy w12 (some go10) := (by rw [hw];exact HP11.2);have hp_ : Kd.R (Kd.int .i64) 3 w12 w.heap.size (fun _ => True) (.slice (some ⟨go10, 0, none⟩) x3_1.length co6) y115 := (by rw [hw, Ny115.out];exact HP11.1);clear HP11;have n0_ := Aside0.mk (hp_);have n1_ := Aside0.mk ((by rw [hw];exact below_set (HB.out) GB10.out : Below w.heap.size w w12));clear HO_3;clear HB;have HO_3 := n0_;have HB := n1_;clear n0_ n1_;clear hg hw hp_))
        (try simp only [← hl3_1])
        go_roundg k1
        case measure => have := HK1.out;omega
        case rel => exact ⟨(y115), (wrap64 (x9_1 + 1)), (by first | rfl | (simp;done) | (simp [*];done)), H', ⟨by have := HK1.out;omega⟩, ⟨by (try simp only [hl3_1]);(with_reducible repeat (first|apply Kd.R_alloc | apply Kd.R_drewN | apply Kd.R_drew));exact HO_3.out⟩, ⟨bel HB.out⟩⟩
       ·rw [if_neg c9] at H
        exact absurd H (by simp)
      ·rw [if_neg c8] at H
       exact absurd H (by simp)
     ·rw [if_neg c7] at H
      have c7b0 : decide (x9_1 < (y112.length : Int)) = false := decide_eq_false c7
      have c7b0l := c7b0
      try simp only [hl3_1] at c7b0l
      clear c7
      obtain rfl := Option.some.inj H
      go_wp2
      go_ret
      exact ⟨_, by first | rfl | (simp [errW_none, errW_some] <;> rfl) | (simp [*, errW_none, errW_some] <;> rfl), Rst HO_3.out, bel HB.out⟩
  ·rw [if_neg c3] at H
   exact absurd H (by simp)
 ·rw [if_neg c2] at H
  exact absurd H (by simp)
def api_Perm_int_149.l0 : Nat → List Int → Int → Int → Int → Option (Int)
 | 0, _, _, _, _ => none
 | k + 1, x0, x1, x7, x8 => if x8 < x7 then (if 0 ≤ x8 then (if x8 < (x0.length : Int) then (if x1 = (rd x0 x8) then (some x8) else (api_Perm_int_149.l0 k x0 x1 x7 (wrap64 (x8 + 1)))) else (none)) else (none)) else (some (-1))
def api_Perm_int_149.f (k : Nat) (l0 : List Int) (a1 : Int) : Option (Int) := api_Perm_int_149.l0 k l0 a1 (l0.length : Int) 0
theorem api_Perm_int_149.mono_l : ∀ k, (∀ y0 y1 y2 y3, LeO (api_Perm_int_149.l0 k y0 y1 y2 y3) (api_Perm_int_149.l0 (k + 1) y0 y1 y2 y3))
 | 0 => fun _ _ _ _ r h => by simp [api_Perm_int_149.l0] at h
 | k + 1 => by
  have ih0 := api_Perm_int_149.mono_l k
  ·intro y0 y1 y2 y3
   unfold api_Perm_int_149.l0
   repeat' first
   | (with_reducible exact ih0 _ _ _ _)
   | (with_reducible exact LeO.refl _)
   | (with_reducible exact LeO.none _)
   | (with_reducible refine LeO.ite ?_ ?_)
   | (with_reducible refine LeO.bind ?_ (fun _ => ?_))
   | exact ih0 _ _ _ _
   | exact LeO.none _
   | refine LeO.ite ?_ ?_
   | refine LeO.bind ?_ (fun _ => ?_)
theorem api_Perm_int_149.mono : ∀ a0 a1 k, LeO (api_Perm_int_149.f k a0 a1) (api_Perm_int_149.f (k + 1) a0 a1) := by
 intro a0 a1 k
 have ih0 := api_Perm_int_149.mono_l k
 unfold api_Perm_int_149.f
 repeat' first
   | (with_reducible exact ih0 _ _ _ _)
   | (with_reducible exact LeO.refl _)
   | (with_reducible exact LeO.none _)
   | (with_reducible refine LeO.ite ?_ ?_)
   | (with_reducible refine LeO.bind ?_ (fun _ => ?_))
   | exact ih0 _ _ _ _
   | exact LeO.none _
   | refine LeO.ite ?_ ?_
   | refine LeO.bind ?_ (fun _ => ?_)
set_option maxHeartbeats 8000000 in
set_option maxRecDepth 100000 in
theorem api_Perm_int_149.calls (k : Nat) (A0 : Option Addr) (c0 : Nat) (l0 : List Int) (a1 : Int) (r : Int) (w : World) (hr0 : Kd.C (Kd.int .i64) w A0 l0.length l0) (hc0 : l0.length ≤ c0) (h : api_Perm_int_149.f k l0 a1 = some r) :
  Calls Try.prog 149 #[.slice A0 l0.length c0, .int .i64 a1] w fun e w' => e = .returned (.int .i64 r) ∧ Drawn0 w w' := by
 have HR0 := Aside0.mk hr0
 have HC0 := Aside0.mk hc0
 clear hr0 hc0
 have H : (api_Perm_int_149.l0 k l0 a1 (l0.length : Int) 0) = some r := h
 clear h
 have H' := Aside0.mk H
 clear H
 go_enter Try.func149, Try.ntmps149
 go_wp2
 go_loopg [8] k (fun kq v8 w' => ∃ (x8_1 : Int), v8 = .int .i64 x8_1 ∧ Aside0 (api_Perm_int_149.l0 kq l0 a1 (l0.length : Int) x8_1 = some r) ∧ Aside0 (kq ≤ k) ∧ Drawn0 w w')
 case atStart => exact ⟨(0), (by first | rfl | (simp;done) | (simp [*];done)), H', ⟨Nat.le_refl _⟩, by repeat (first|exact Drawn0.refl _ | apply Drawn0.step)⟩
 case round =>
  clear H'
  try clear c1
  try clear p2
  obtain ⟨x8_1, rfl, HA, HK1, ⟨m1, rfl⟩⟩ := hrel
  cases gk with
  | zero => exact absurd HA.out (by simp [api_Perm_int_149.l0])
  | succ k1 =>
   have H := HA.out
   clear HA
   simp only [api_Perm_int_149.l0] at H
   by_cases c3 : x8_1 < (l0.length : Int)
   ·rw [if_pos c3] at H
    have c3b0 : decide (x8_1 < (l0.length : Int)) = true := decide_eq_true c3
    clear c3
    by_cases c4 : 0 ≤ x8_1
    ·rw [if_pos c4] at H
     have c4b0 : decide (0 ≤ x8_1) = true := decide_eq_true c4
     clear c4
     by_cases c5 : x8_1 < (l0.length : Int)
     ·rw [if_pos c5] at H
      have c5b0 : decide (x8_1 < (l0.length : Int)) = true := decide_eq_true c5
      clear c5
      by_cases c6 : a1 = (rd l0 x8_1)
      ·rw [if_pos c6] at H
       have c6b0 : (a1 == (rd l0 x8_1)) = true := beq_iff_eq.mpr c6
       have c6b1 : (a1 != (rd l0 x8_1)) = false := bne_eq_false_iff_eq.mpr c6
       clear c6
       obtain rfl := Option.some.inj H
       have p116 : 0 ≤ (x8_1 : Int) := of_decide_eq_true (by assumption)
       have q116 : x8_1 < (l0.length : Int) := of_decide_eq_true (by assumption)
       obtain ⟨ad116, e116, hx116_0⟩ := Kd.at_int HR0.out x8_1 p116 q116
       cases e116
       replace p116 := eq_true p116
       replace q116 := eq_true q116
       go_wp2
       go_ret
       exact ⟨by first | rfl | (simp;done) | (simp [*];done), by repeat (first|exact Drawn0.refl _ | apply Drawn0.step)⟩
      ·rw [if_neg c6] at H
       have c6b0 : (a1 == (rd l0 x8_1)) = false := beq_eq_false_iff_ne.mpr c6
       have c6b1 : (a1 != (rd l0 x8_1)) = true := bne_iff_ne.mpr c6
       have H' := Aside0.mk H
       clear H
       have p116 : 0 ≤ (x8_1 : Int) := of_decide_eq_true (by assumption)
       have q116 : x8_1 < (l0.length : Int) := of_decide_eq_true (by assumption)
       obtain ⟨ad116, e116, hx116_0⟩ := Kd.at_int HR0.out x8_1 p116 q116
       cases e116
       replace p116 := eq_true p116
       replace q116 := eq_true q116
       go_wp2
       go_roundg k1
       case measure => have := HK1.out;omega
       case rel => exact ⟨(wrap64 (x8_1 + 1)), (by first | rfl | (simp;done) | (simp [*];done)), H', ⟨by have := HK1.out;omega⟩, by repeat (first|exact Drawn0.refl _ | apply Drawn0.step)⟩
     ·rw [if_neg c5] at H
      exact absurd H (by simp)
    ·rw [if_neg c4] at H
     exact absurd H (by simp)
   ·rw [if_neg c3] at H
    have c3b0 : decide (x8_1 < (l0.length : Int)) = false := decide_eq_false c3
    clear c3
    obtain rfl := Option.some.inj H
    go_wp2
    go_ret
    exact ⟨by first | rfl | (simp;done) | (simp [*];done), by repeat (first|exact Drawn0.refl _ | apply Drawn0.step)⟩
def api_Perm_int_138.f (k : Nat) (l0 : List Int) (a1 : Int) : Option (Bool) := (api_Perm_int_149.f k l0 a1).bind fun t117 => (some (decide (t117 ≥ 0)))
theorem api_Perm_int_138.mono : ∀ a0 a1 k, LeO (api_Perm_int_138.f k a0 a1) (api_Perm_int_138.f (k + 1) a0 a1) := by
 intro a0 a1 k
 unfold api_Perm_int_138.f
 repeat' first
   | (with_reducible exact api_Perm_int_149.mono _ _ _)
   | (with_reducible exact LeO.refl _)
   | (with_reducible exact LeO.none _)
   | (with_reducible refine LeO.ite ?_ ?_)
   | (with_reducible refine LeO.bind ?_ (fun _ => ?_))
   | exact api_Perm_int_149.mono _ _ _
   | exact LeO.none _
   | refine LeO.ite ?_ ?_
   | refine LeO.bind ?_ (fun _ => ?_)
set_option maxHeartbeats 8000000 in
set_option maxRecDepth 100000 in
theorem api_Perm_int_138.calls (k : Nat) (A0 : Option Addr) (c0 : Nat) (l0 : List Int) (a1 : Int) (r : Bool) (w : World) (hr0 : Kd.C (Kd.int .i64) w A0 l0.length l0) (hc0 : l0.length ≤ c0) (h : api_Perm_int_138.f k l0 a1 = some r) :
  Calls Try.prog 138 #[.slice A0 l0.length c0, .int .i64 a1] w fun e w' => e = .returned (.bool r) ∧ Drawn0 w w' := by
 have HR0 := Aside0.mk hr0
 have HC0 := Aside0.mk hc0
 clear hr0 hc0
 have H : ((api_Perm_int_149.f k l0 a1).bind fun t117 => (some (decide (t117 ≥ 0)))) = some r := h
 clear h
 replace H := Option.bind_eq_some_iff.mp H
 obtain ⟨t117, A30, H⟩ := H
 replace H : (some (decide (t117 ≥ 0))) = some r := H
 have A3 := Aside0.mk A30
 clear A30
 obtain rfl := Option.some.inj H
 go_enter Try.func138, Try.ntmps138
 go_wp2_with (first|((with_reducible refine gate_callee (f := 149) rfl ?_);refine goesL_ (some 7) rfl rfl Try.func149 (by kernel_rfl) rfl #[.slice A0 l0.length c0, .int .i64 a1] rfl (by (try simp only [List.map_toArray, List.map_cons, List.map_nil]);first | done | rfl | (simp only [List.length_drop, List.length_take];rfl)) ?_;(with_reducible refine (api_Perm_int_149.calls k _ _ l0 a1 t117 _ ?side1 ?side2 A3.out).mono ?_);(case side1 => exact Cst HR0.out);(case side2 => exact HC0.out);rintro e w' ⟨rfl, ⟨nd, rfl⟩⟩;refine ⟨_, rfl, ?_⟩))
 go_ret
 exact ⟨by first | rfl | (simp;done) | (simp [*];done), by repeat (first|exact Drawn0.refl _ | apply Drawn0.step)⟩
mutual
def perm_Check.l0 : Nat → List Int → List Int → Int → Int → Option (Int)
 | 0, _, _, _, _ => none
 | k + 1, x0, x8, x9, x10 => if x10 < x9 then (if 0 ≤ x10 then (if x10 < (x8.length : Int) then (if (rd x8 x10) < 0 then (perm_Check.j1 k x0 x10 (rd x8 x10) x8 x9 x10 true) else (perm_Check.j1 k x0 x10 (rd x8 x10) x8 x9 x10 (decide ((rd x8 x10) ≥ (x0.length : Int))))) else (none)) else (none)) else (some 0)
def perm_Check.j1 : Nat → List Int → Int → Int → List Int → Int → Int → Bool → Option (Int)
 | 0, _, _, _, _, _, _, _ => none
 | k + 1, x0, x3, x4, x8, x9, x10, x15 => if x15 = true then (some 3) else (if 0 ≤ x3 then (if x3 ≤ (x0.length : Int) then ((api_Perm_int_138.f k (x0.take (x3 : Int).toNat) x4).bind fun t120 => (if t120 = true then (some 24) else (perm_Check.l0 k x0 x8 x9 (wrap64 (x10 + 1))))) else (none)) else (none))
end
def perm_Check.f (k : Nat) (l0 : List Int) : Option (Int) := if (l0.length : Int) > 20 then (some 4) else (perm_Check.l0 k l0 l0 (l0.length : Int) 0)
theorem perm_Check.mono_l : ∀ k, (∀ y0 y1 y2 y3, LeO (perm_Check.l0 k y0 y1 y2 y3) (perm_Check.l0 (k + 1) y0 y1 y2 y3)) ∧ (∀ y0 y1 y2 y3 y4 y5 y6, LeO (perm_Check.j1 k y0 y1 y2 y3 y4 y5 y6) (perm_Check.j1 (k + 1) y0 y1 y2 y3 y4 y5 y6))
 | 0 => ⟨fun _ _ _ _ r h => by simp [perm_Check.l0] at h, fun _ _ _ _ _ _ _ r h => by simp [perm_Check.j1] at h⟩
 | k + 1 => by
  obtain ⟨ih0, ih1⟩ := perm_Check.mono_l k
  refine ⟨?_, ?_⟩
  ·intro y0 y1 y2 y3
   unfold perm_Check.l0
   repeat' first
   | (with_reducible exact ih0 _ _ _ _)
   | (with_reducible exact ih1 _ _ _ _ _ _ _)
   | (with_reducible exact api_Perm_int_138.mono _ _ _)
   | (with_reducible exact LeO.refl _)
   | (with_reducible exact LeO.none _)
   | (with_reducible refine LeO.ite ?_ ?_)
   | (with_reducible refine LeO.bind ?_ (fun _ => ?_))
   | exact ih0 _ _ _ _
   | exact ih1 _ _ _ _ _ _ _
   | exact api_Perm_int_138.mono _ _ _
   | exact LeO.none _
   | refine LeO.ite ?_ ?_
   | refine LeO.bind ?_ (fun _ => ?_)
  ·intro y0 y1 y2 y3 y4 y5 y6
   unfold perm_Check.j1
   repeat' first
   | (with_reducible exact ih0 _ _ _ _)
   | (with_reducible exact ih1 _ _ _ _ _ _ _)
   | (with_reducible exact api_Perm_int_138.mono _ _ _)
   | (with_reducible exact LeO.refl _)
   | (with_reducible exact LeO.none _)
   | (with_reducible refine LeO.ite ?_ ?_)
   | (with_reducible refine LeO.bind ?_ (fun _ => ?_))
   | exact ih0 _ _ _ _
   | exact ih1 _ _ _ _ _ _ _
   | exact api_Perm_int_138.mono _ _ _
   | exact LeO.none _
   | refine LeO.ite ?_ ?_
   | refine LeO.bind ?_ (fun _ => ?_)
theorem perm_Check.mono : ∀ a0 k, LeO (perm_Check.f k a0) (perm_Check.f (k + 1) a0) := by
 intro a0 k
 obtain ⟨ih0, ih1⟩ := perm_Check.mono_l k
 unfold perm_Check.f
 repeat' first
   | (with_reducible exact ih0 _ _ _ _)
   | (with_reducible exact ih1 _ _ _ _ _ _ _)
   | (with_reducible exact api_Perm_int_138.mono _ _ _)
   | (with_reducible exact LeO.refl _)
   | (with_reducible exact LeO.none _)
   | (with_reducible refine LeO.ite ?_ ?_)
   | (with_reducible refine LeO.bind ?_ (fun _ => ?_))
   | exact ih0 _ _ _ _
   | exact ih1 _ _ _ _ _ _ _
   | exact api_Perm_int_138.mono _ _ _
   | exact LeO.none _
   | refine LeO.ite ?_ ?_
   | refine LeO.bind ?_ (fun _ => ?_)
set_option maxHeartbeats 8000000 in
set_option maxRecDepth 100000 in
theorem perm_Check.calls (k : Nat) (A0 : Option Addr) (c0 : Nat) (l0 : List Int) (r : Int) (w : World) (hr0 : Kd.C (Kd.int .i64) w A0 l0.length l0) (hc0 : l0.length ≤ c0) (h : perm_Check.f k l0 = some r) :
  Calls Try.prog 116 #[.slice A0 l0.length c0] w fun e w' => e = .returned (.int .i64 r) ∧ Drawn0 w w' := by
 have HR0 := Aside0.mk hr0
 have HC0 := Aside0.mk hc0
 clear hr0 hc0
 have H : (if (l0.length : Int) > 20 then (some 4) else (perm_Check.l0 k l0 l0 (l0.length : Int) 0)) = some r := h
 clear h
 by_cases c2 : (l0.length : Int) > 20
 ·rw [if_pos c2] at H
  have c2b0 : decide (20 < (l0.length : Int)) = true := decide_eq_true c2
  have c2b1 : decide (20 < l0.length) = true := decide_eq_true (by omega)
  clear c2
  obtain rfl := Option.some.inj H
  go_enter Try.func116, Try.ntmps116
  go_wp2
  go_ret
  exact ⟨by first | rfl | (simp;done) | (simp [*];done), by repeat (first|exact Drawn0.refl _ | apply Drawn0.step)⟩
 ·rw [if_neg c2] at H
  have c2b0 : decide (20 < (l0.length : Int)) = false := decide_eq_false c2
  have c2b1 : decide (20 < l0.length) = false := decide_eq_false (by omega)
  clear c2
  have H' := Aside0.mk H
  clear H
  go_enter Try.func116, Try.ntmps116
  go_wp2
  go_loopg [10] k (fun kq v10 w' => ∃ (x10_1 : Int), v10 = .int .i64 x10_1 ∧ Aside0 (perm_Check.l0 kq l0 l0 (l0.length : Int) x10_1 = some r) ∧ Aside0 (kq ≤ k) ∧ Drawn0 w w')
  case atStart => exact ⟨(0), (by first | rfl | (simp;done) | (simp [*];done)), H', ⟨Nat.le_refl _⟩, by repeat (first|exact Drawn0.refl _ | apply Drawn0.step)⟩
  case round =>
   clear H'
   try clear c1
   try clear c2
   try clear c2b0
   try clear c2b1
   try clear p2
   obtain ⟨x10_1, rfl, HA, HK1, ⟨m1, rfl⟩⟩ := hrel
   cases gk with
   | zero => exact absurd HA.out (by simp [perm_Check.l0])
   | succ k1 =>
    have H := HA.out
    clear HA
    simp only [perm_Check.l0] at H
    by_cases c3 : x10_1 < (l0.length : Int)
    ·rw [if_pos c3] at H
     have c3b0 : decide (x10_1 < (l0.length : Int)) = true := decide_eq_true c3
     clear c3
     by_cases c4 : 0 ≤ x10_1
     ·rw [if_pos c4] at H
      have c4b0 : decide (0 ≤ x10_1) = true := decide_eq_true c4
      clear c4
      by_cases c5 : x10_1 < (l0.length : Int)
      ·rw [if_pos c5] at H
       have c5b0 : decide (x10_1 < (l0.length : Int)) = true := decide_eq_true c5
       clear c5
       have HC6 := Aside0.mk H
       clear H
       have p118 : 0 ≤ (x10_1 : Int) := of_decide_eq_true (by assumption)
       have q118 : x10_1 < (l0.length : Int) := of_decide_eq_true (by assumption)
       obtain ⟨ad118, e118, hx118_0⟩ := Kd.at_int HR0.out x10_1 p118 q118
       cases e118
       replace p118 := eq_true p118
       replace q118 := eq_true q118
       go_upto_region 6 with (fail)
       go_cut [15] (fun v15 wc => ∃ (kq : Nat) (x15_5 : Bool), v15 = .bool x15_5 ∧ Aside0 (perm_Check.j1 kq l0 x10_1 (rd l0 x10_1) l0 (l0.length : Int) x10_1 x15_5 = some r) ∧ Aside0 (kq ≤ k1) ∧ Drawn0 w wc)
       case first =>
        have H := HC6.out
        clear HC6
        by_cases c7 : (rd l0 x10_1) < 0
        ·rw [if_pos c7] at H
         have c7b0 : decide ((rd l0 x10_1) < 0) = true := decide_eq_true c7
         clear c7
         (first|rw [c7b0] | (simp only [i64_w, i32_w];rw [c7b0]) | skip)
         have H' := Aside0.mk H
         clear H
         go_wp2
         go_meet
         case rel => exact ⟨_, (true), (by first | rfl | (simp;done) | (simp [*];done)), H', ⟨by have := HK1.out;first | omega | exact Nat.le_refl _⟩, by repeat (first|exact Drawn0.refl _ | apply Drawn0.step)⟩
        ·rw [if_neg c7] at H
         have c7b0 : decide ((rd l0 x10_1) < 0) = false := decide_eq_false c7
         clear c7
         (first|rw [c7b0] | (simp only [i64_w, i32_w];rw [c7b0]) | skip)
         have H' := Aside0.mk H
         clear H
         go_wp2
         go_meet
         case rel => exact ⟨_, (decide ((rd l0 x10_1) ≥ (l0.length : Int))), (by first | rfl | (simp;done) | (simp [*];done)), H', ⟨by have := HK1.out;first | omega | exact Nat.le_refl _⟩, by repeat (first|exact Drawn0.refl _ | apply Drawn0.step)⟩
       case rest =>
        clear HC6
        try clear c1
        try clear p1
        try clear q1
        try clear hx1
        try clear c2
        try clear c2b0
        try clear c2b1
        try clear p2
        try clear c3
        try clear c3b0
        try clear c4
        try clear c4b0
        try clear c5
        try clear c5b0
        try clear c7
        try clear c7b0
        try clear hx118_0
        try clear p118
        try clear p2
        try clear q118
        obtain ⟨kq, x15_5, rfl, HA, HJ5, ⟨mc5, rfl⟩⟩ := hcut
        cases kq with
        | zero => exact absurd HA.out (by simp [perm_Check.j1])
        | succ kj5 =>
         have H := HA.out
         clear HA
         simp only [perm_Check.j1] at H
         by_cases c8 : x15_5 = true
         ·subst c8
          have H1 : (some 3) = some r := by rw [if_pos rfl] at H;exact H
          clear H
          have H := H1
          clear H1
          obtain rfl := Option.some.inj H
          go_wp2
          go_ret
          exact ⟨by first | rfl | (simp;done) | (simp [*];done), by repeat (first|exact Drawn0.refl _ | apply Drawn0.step)⟩
         ·replace c8 := Bool.eq_false_iff.mpr c8
          subst c8
          have H1 : (if 0 ≤ x10_1 then (if x10_1 ≤ (l0.length : Int) then ((api_Perm_int_138.f kj5 (l0.take (x10_1 : Int).toNat) (rd l0 x10_1)).bind fun t120 => (if t120 = true then (some 24) else (perm_Check.l0 kj5 l0 l0 (l0.length : Int) (wrap64 (x10_1 + 1))))) else (none)) else (none)) = some r := by rw [if_neg (show ¬ (false = true) by decide)] at H;exact H
          clear H
          have H := H1
          clear H1
          by_cases c9 : 0 ≤ x10_1
          ·rw [if_pos c9] at H
           have c9b0 := eq_true c9
           have c9b1 : decide (0 ≤ x10_1) = true := decide_eq_true c9
           clear c9
           by_cases c10 : x10_1 ≤ (l0.length : Int)
           ·rw [if_pos c10] at H
            have c10b0 := eq_true c10
            have c10b1 : decide (x10_1 ≤ (l0.length : Int)) = true := decide_eq_true c10
            clear c10
            replace H := Option.bind_eq_some_iff.mp H
            obtain ⟨t120, A110, H⟩ := H
            replace H : (if t120 = true then (some 24) else (perm_Check.l0 kj5 l0 l0 (l0.length : Int) (wrap64 (x10_1 + 1)))) = some r := H
            have A11 := Aside0.mk A110
            clear A110
            by_cases c12 : t120 = true
            ·subst c12
             have H1 : (some 24) = some r := by rw [if_pos rfl] at H;exact H
             clear H
             have H := H1
             clear H1
             obtain rfl := Option.some.inj H
             obtain ⟨i013, hi013, _, hsz13, _⟩ := info_parts info3
             obtain ⟨hcut13, hA13, hC13⟩ := print_take_of (P := Try.prog) (Value.int .i64) 0 49 3 .i64 Try.underlying49 hi013 hsz13 (some ad118) c0 l0 x10_1 (of_decide_eq_true (by assumption)) (of_decide_eq_true (by assumption)) HC0.out
             have HR119 := Aside0.mk (Kd.C_of_reads (h1 := fun _ => rfl) (hA13 _ (Kd.reads_of_C HR0.out)))
             have HC119 := Aside0.mk hC13
             clear hA13 hC13 hi013 hsz13
             go_wp2_with (first|((with_reducible refine gate_callee (f := 138) rfl ?_);refine goesL_ (some 29) rfl rfl Try.func138 (by kernel_rfl) rfl #[.slice (some ad118) (l0.take (x10_1 : Int).toNat).length c0, .int .i64 (rd l0 x10_1)] rfl (by (try simp only [List.map_toArray, List.map_cons, List.map_nil]);first | done | (rw [show (l0.take (x10_1 : Int).toNat).length = x10_1.toNat from (by rw [List.length_take];have h_ : (x10_1 : Int) ≤ (l0.length : Int) := of_decide_eq_true (by assumption);omega)] <;> rfl) | rfl | (simp only [List.length_drop, List.length_take];rfl)) ?_;(with_reducible refine (api_Perm_int_138.calls kj5 _ _ (l0.take (x10_1 : Int).toNat) (rd l0 x10_1) true _ ?side1 ?side2 A11.out).mono ?_);(case side1 => exact Cst HR119.out);(case side2 => exact HC119.out);rintro e w' ⟨rfl, ⟨nd, rfl⟩⟩;refine ⟨_, rfl, ?_⟩))
             go_ret
             exact ⟨by first | rfl | (simp;done) | (simp [*];done), by repeat (first|exact Drawn0.refl _ | apply Drawn0.step)⟩
            ·replace c12 := Bool.eq_false_iff.mpr c12
             subst c12
             have H1 : (perm_Check.l0 kj5 l0 l0 (l0.length : Int) (wrap64 (x10_1 + 1))) = some r := by rw [if_neg (show ¬ (false = true) by decide)] at H;exact H
             clear H
             have H := H1
             clear H1
             have H' := Aside0.mk H
             clear H
             obtain ⟨i014, hi014, _, hsz14, _⟩ := info_parts info3
             obtain ⟨hcut14, hA14, hC14⟩ := print_take_of (P := Try.prog) (Value.int .i64) 0 49 3 .i64 Try.underlying49 hi014 hsz14 (some ad118) c0 l0 x10_1 (of_decide_eq_true (by assumption)) (of_decide_eq_true (by assumption)) HC0.out
             have HR119 := Aside0.mk (Kd.C_of_reads (h1 := fun _ => rfl) (hA14 _ (Kd.reads_of_C HR0.out)))
             have HC119 := Aside0.mk hC14
             clear hA14 hC14 hi014 hsz14
             go_wp2_with (first|((with_reducible refine gate_callee (f := 138) rfl ?_);refine goesL_ (some 29) rfl rfl Try.func138 (by kernel_rfl) rfl #[.slice (some ad118) (l0.take (x10_1 : Int).toNat).length c0, .int .i64 (rd l0 x10_1)] rfl (by (try simp only [List.map_toArray, List.map_cons, List.map_nil]);first | done | (rw [show (l0.take (x10_1 : Int).toNat).length = x10_1.toNat from (by rw [List.length_take];have h_ : (x10_1 : Int) ≤ (l0.length : Int) := of_decide_eq_true (by assumption);omega)] <;> rfl) | rfl | (simp only [List.length_drop, List.length_take];rfl)) ?_;(with_reducible refine (api_Perm_int_138.calls kj5 _ _ (l0.take (x10_1 : Int).toNat) (rd l0 x10_1) false _ ?side1 ?side2 A11.out).mono ?_);(case side1 => exact Cst HR119.out);(case side2 => exact HC119.out);rintro e w' ⟨rfl, ⟨nd, rfl⟩⟩;refine ⟨_, rfl, ?_⟩))
             go_roundg kj5
             case measure => have := HK1.out;have := HJ5.out;omega
             case rel => exact ⟨(wrap64 (x10_1 + 1)), (by first | rfl | (simp;done) | (simp [*];done)), H', ⟨by have := HK1.out;have := HJ5.out;omega⟩, by repeat (first|exact Drawn0.refl _ | apply Drawn0.step)⟩
           ·rw [if_neg c10] at H
            exact absurd H (by simp)
          ·rw [if_neg c9] at H
           exact absurd H (by simp)
      ·rw [if_neg c5] at H
       exact absurd H (by simp)
     ·rw [if_neg c4] at H
      exact absurd H (by simp)
    ·rw [if_neg c3] at H
     have c3b0 : decide (x10_1 < (l0.length : Int)) = false := decide_eq_false c3
     clear c3
     obtain rfl := Option.some.inj H
     go_wp2
     go_ret
     exact ⟨by first | rfl | (simp;done) | (simp [*];done), by repeat (first|exact Drawn0.refl _ | apply Drawn0.step)⟩
end Go.Proofs.Ytmbldnoepjmhhaa.PBs
