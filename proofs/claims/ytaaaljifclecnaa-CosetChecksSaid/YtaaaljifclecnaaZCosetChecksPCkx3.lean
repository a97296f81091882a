-- Printed by wip/tools/mk.py of this repo (the kit's print with turns made in memory).
import Derived.Test.YtaaaljifclecnaaZCosetChecksPCkx0
import Derived.Test.YtaaaljifclecnaaZCosetChecksPCkx2
namespace Go.Proofs.Ytaaaljifclecnaa.PCk
open Go.RowKit Go.Proofs.YtaaaljifclecnaaW.PrintWords Go.Proofs.YtaaaljifclecnaaW.PrintLast Go.Proofs.YtaaaljifclecnaaW.PrintMore
attribute [local go_sem] max2_int min2_int max_two min_two max_three min_three max_four min_four   -- for this text's walks alone
set_option linter.unusedVariables false
set_option linter.unusedSimpArgs false
mutual
def coset_orders.l0 : Nat → List (List Int) → List Int → Int → Int → Option (List Int)
  | 0, _, _, _, _ => none
  | k + 1, x0, x3, x10, x11 => if x11 < x10 then (if 0 ≤ x11 then (if x11 < (x3.length : Int) then (coset_orders.l1 k x0 (x3.set (x11 : Int).toNat 1) x11 x11 x10 x11) else (none)) else (none)) else (some x3)
def coset_orders.l1 : Nat → List (List Int) → List Int → Int → Int → Int → Int → Option (List Int)
  | 0, _, _, _, _, _, _ => none
  | k + 1, x0, x3, x4, x5, x10, x11 => if x5 = 0 then (coset_orders.l0 k x0 x3 x10 (wrap64 (x11 + 1))) else (if 0 ≤ x4 then (if x4 < (x3.length : Int) then (if 0 ≤ x5 then (if x5 < (x0.length : Int) then (if x4 < ((rd_L1 x0 x5).length : Int) then (coset_orders.l1 k x0 (x3.set (x4 : Int).toNat (wrap64 ((rd x3 x4) + 1))) x4 (rd (rd_L1 x0 x5) x4) x10 x11) else (none)) else (none)) else (none)) else (none)) else (none))
end
def coset_orders.f (k : Nat) (l0 : List (List Int)) : Option (List Int) := if 0 ≤ (l0.length : Int) then (if ((l0.length : Int) : Int).toNat ≤ 35184372088832 then (coset_orders.l0 k l0 (List.replicate ((l0.length : Int) : Int).toNat 0) (l0.length : Int) 0) else (none)) else (none)
theorem coset_orders.mono_l : ∀ k, (∀ y0 y1 y2 y3, LeO (coset_orders.l0 k y0 y1 y2 y3) (coset_orders.l0 (k + 1) y0 y1 y2 y3)) ∧ (∀ y0 y1 y2 y3 y4 y5, LeO (coset_orders.l1 k y0 y1 y2 y3 y4 y5) (coset_orders.l1 (k + 1) y0 y1 y2 y3 y4 y5))
  | 0 => ⟨fun _ _ _ _ r h => by simp [coset_orders.l0] at h, fun _ _ _ _ _ _ r h => by simp [coset_orders.l1] at h⟩
  | k + 1 => by
    obtain ⟨ih0, ih1⟩ := coset_orders.mono_l k
    refine ⟨?_, ?_⟩
    · intro y0 y1 y2 y3
      unfold coset_orders.l0
      repeat' first
      | (with_reducible exact ih0 _ _ _ _)
      | (with_reducible exact ih1 _ _ _ _ _ _)
      | (with_reducible exact LeO.refl _)
      | (with_reducible exact LeO.none _)
      | (with_reducible refine LeO.ite ?_ ?_)
      | (with_reducible refine LeO.bind ?_ (fun _ => ?_))
      | exact ih0 _ _ _ _
      | exact ih1 _ _ _ _ _ _
      | exact LeO.none _
      | refine LeO.ite ?_ ?_
      | refine LeO.bind ?_ (fun _ => ?_)
    · intro y0 y1 y2 y3 y4 y5
      unfold coset_orders.l1
      repeat' first
      | (with_reducible exact ih0 _ _ _ _)
      | (with_reducible exact ih1 _ _ _ _ _ _)
      | (with_reducible exact LeO.refl _)
      | (with_reducible exact LeO.none _)
      | (with_reducible refine LeO.ite ?_ ?_)
      | (with_reducible refine LeO.bind ?_ (fun _ => ?_))
      | exact ih0 _ _ _ _
      | exact ih1 _ _ _ _ _ _
      | exact LeO.none _
      | refine LeO.ite ?_ ?_
      | refine LeO.bind ?_ (fun _ => ?_)
theorem coset_orders.mono : ∀ a0 k, LeO (coset_orders.f k a0) (coset_orders.f (k + 1) a0) := by
  intro a0 k
  obtain ⟨ih0, ih1⟩ := coset_orders.mono_l k
  unfold coset_orders.f
  repeat' first
      | (with_reducible exact ih0 _ _ _ _)
      | (with_reducible exact ih1 _ _ _ _ _ _)
      | (with_reducible exact LeO.refl _)
      | (with_reducible exact LeO.none _)
      | (with_reducible refine LeO.ite ?_ ?_)
      | (with_reducible refine LeO.bind ?_ (fun _ => ?_))
      | exact ih0 _ _ _ _
      | exact ih1 _ _ _ _ _ _
      | exact LeO.none _
      | refine LeO.ite ?_ ?_
      | refine LeO.bind ?_ (fun _ => ?_)
set_option maxHeartbeats 8000000 in
set_option maxRecDepth 100000 in
theorem coset_orders.calls (k : Nat) (A0 : Option Addr) (c0 : Nat) (l0 : List (List Int)) (r : List Int) (w : World) (hr0 : Kd.C (Kd.slice 3 (Kd.int .i64)) w A0 l0.length l0) (hc0 : l0.length ≤ c0) (h : coset_orders.f k l0 = some r) :
    Calls Try.prog 66 #[.slice A0 l0.length c0] w fun e w' => ∃ v0_ : Value, e = .returned (v0_) ∧ Kd.R (Kd.int .i64) 3 w' w.heap.size (fun _ => True) v0_ r ∧ Below w.heap.size w w' := by
  have HR0 := Aside0.mk hr0
  have HC0 := Aside0.mk hc0
  clear hr0 hc0
  have HB := Aside0.mk (Below.refl w.heap.size w)
  have H : (if 0 ≤ (l0.length : Int) then (if ((l0.length : Int) : Int).toNat ≤ 35184372088832 then (coset_orders.l0 k l0 (List.replicate ((l0.length : Int) : Int).toNat 0) (l0.length : Int) 0) else (none)) else (none)) = some r := h
  clear h
  by_cases c2 : 0 ≤ (l0.length : Int)
  · rw [if_pos c2] at H
    have c2b0 := eq_true c2
    have c2b1 : decide (0 ≤ (l0.length : Int)) = true := decide_eq_true c2
    clear c2
    by_cases c3 : ((l0.length : Int) : Int).toNat ≤ 35184372088832
    · rw [if_pos c3] at H
      have c3b0 := eq_true c3
      have c3b1 : decide (((l0.length : Int) : Int).toNat ≤ 35184372088832) = true := decide_eq_true c3
      clear c3
      obtain ⟨y184, hy184⟩ : ∃ y_ : List Int, y_ = (List.replicate ((l0.length : Int) : Int).toNat 0) := ⟨_, rfl⟩
      replace H : (coset_orders.l0 k l0 y184 (l0.length : Int) 0) = some r := by first | (rw [hy184]; with_reducible exact H) | (have H2_ := (Option.bind_some _ _).symm.trans H; rw [hy184]; with_reducible exact H2_) | (have H2_ := (Option.bind_some _ _).symm.trans H; with_reducible exact H2_) | with_reducible exact H | (rw [hy184]; exact H) | exact H
      have Ny184 := Aside0.mk hy184
      clear hy184
      have H' := Aside0.mk H
      clear H
      go_enter Try.func66, Try.ntmps66
      go_wp2_with (first | ((with_reducible refine gate_dst (N := 8) rfl ?_); refine Kd.R_make (Kd.int .i64) _ 3 rfl (N := 8) rfl 42 _ _ rfl (l0.length : Int) rfl rfl Try.underlying42 (.int .i64 0) 8 info3 rfl (by decide) (by omega) 0 (ok := fun _ => True) (okp := fun _ => True) rfl (fun _ hk => hk) trivial (of_decide_eq_true (by first | (with_reducible assumption) | assumption)) (Nat.le_trans (Nat.mul_le_mul_right _ (of_decide_eq_true (by first | (with_reducible assumption) | assumption) : (l0.length : Int).toNat ≤ 35184372088832)) (by omega)) (Below.refl _ _) (Nat.le_refl _) ?_; intro v185 w4 ho5 hb hg_ hnew_; clear hg_ hnew_; (first | rw [← Ny184.out] at ho5 | (simp only [Int.reduceToNat] at ho5; rw [← Ny184.out] at ho5)); have n0_ := Aside0.mk (Kd.R_lower ho5 (below_size (by repeat (first | (with_reducible first | exact HB.out | apply below_alloc | apply pw_below_drewN | apply below_drew1) | exact HB.out)))); have n1_ := Aside0.mk (below_step (by repeat (first | (with_reducible first | exact HB.out | apply below_alloc | apply pw_below_drewN | apply below_drew1) | exact HB.out)) hb); clear HB; have HO186 := n0_; have HB := n1_; clear n0_ n1_; clear hb ho5))
      go_loopg [11] k (fun kq v11 w' => ∃ (x3_1 : List Int) (x11_1 : Int), v11 = .int .i64 x11_1 ∧ Aside0 (coset_orders.l0 kq l0 x3_1 (l0.length : Int) x11_1 = some r) ∧ Aside0 (kq ≤ k) ∧ Aside0 (Kd.R (Kd.int .i64) 3 w' w.heap.size (fun _ => True) v185 x3_1) ∧ Aside0 (Below w.heap.size w w'))
      case atStart => exact ⟨(y184), (0), (by first | rfl | (simp; done) | (simp [*]; done)), H', ⟨Nat.le_refl _⟩, ⟨by (with_reducible repeat (first | apply Kd.R_alloc | apply Kd.R_drewN | apply Kd.R_drew)); exact HO186.out⟩, ⟨by repeat (first | (with_reducible first | exact HB.out | apply below_alloc | apply pw_below_drewN | apply below_drew1) | exact HB.out)⟩⟩
      case round =>
        clear H'
        try clear c2
        try clear c2b0
        try clear c2b1
        try clear p2
        try clear c3
        try clear c3b0
        try clear c3b1
        obtain ⟨x3_1, x11_1, rfl, HA, HK1, HO_3, HB⟩ := hrel
        cases gk with
        | zero => exact absurd HA.out (by simp [coset_orders.l0])
        | succ k1 =>
          have H := HA.out
          clear HA
          simp only [coset_orders.l0] at H
          by_cases c6 : x11_1 < (l0.length : Int)
          · rw [if_pos c6] at H
            have c6b0 : decide (x11_1 < (l0.length : Int)) = true := decide_eq_true c6
            clear c6
            by_cases c7 : 0 ≤ x11_1
            · rw [if_pos c7] at H
              have c7b0 : decide (0 ≤ x11_1) = true := decide_eq_true c7
              clear c7
              by_cases c8 : x11_1 < (x3_1.length : Int)
              · rw [if_pos c8] at H
                have c8b0 : decide (x11_1 < (x3_1.length : Int)) = true := decide_eq_true c8
                clear c8
                obtain ⟨y187, hy187⟩ : ∃ y_ : List Int, y_ = (x3_1.set (x11_1 : Int).toNat 1) := ⟨_, rfl⟩
                replace H : (coset_orders.l1 k1 l0 y187 x11_1 x11_1 (l0.length : Int) x11_1) = some r := by first | (rw [hy187]; with_reducible exact H) | (have H2_ := (Option.bind_some _ _).symm.trans H; rw [hy187]; with_reducible exact H2_) | (have H2_ := (Option.bind_some _ _).symm.trans H; with_reducible exact H2_) | with_reducible exact H | (rw [hy187]; exact H) | exact H
                have Ny187 := Aside0.mk hy187
                clear hy187
                have H' := Aside0.mk H
                clear H
                have p9 : 0 ≤ (x11_1 : Int) := of_decide_eq_true (by first | (with_reducible assumption) | assumption)
                have q9 : (x11_1 : Int) < ((x3_1.length : Int) : Int) := of_decide_eq_true (by first | (with_reducible assumption) | assumption)
                obtain ⟨go9, co9, eo9, gb9, gl9, cl9, HG9⟩ := Kd.R_form HO_3.out (by omega)
                (first | cases eo9 | (injection eo9 with ea_ en_ ec_; (first | subst ea_ | (injection ea_ with ea_; subst ea_)); subst ec_; clear en_))
                have GB9 := Aside0.mk gb9
                have GG9 := Aside0.mk HG9
                clear gb9 gl9 HG9
                obtain ⟨hx9_0, hf9_0⟩ := Kd.R_celln 0 HO_3.out (x11_1 : Int) p9 q9
                replace p9 := eq_true p9
                replace q9 := eq_true q9
                have HP10 := Kd.R_putg HO_3.out (x11_1 : Int) 1
                go_wp2_with (first | ((with_reducible refine gate_store (t := 3) (p := 16) rfl ?_); refine store_event (t := 3) (p := 16) (v := ?vo_w11) (w1 := (wr.setCell ⟨go9, (x11_1 : Int).toNat, none⟩ (.int .i64 1))) ?hg ?ho ?hn ?hr ?_; (case ho => rfl); (case hg => rfl); (case hn => rfl); (case hr => first | (go_simp; done) | (go_simp; rfl)); intro w11 hw; have hg : wr.grownBy w11 (some go9) := (by rw [hw]; exact HP10.2); have hp_ : Kd.R (Kd.int .i64) 3 w11 w.heap.size (fun _ => True) (.slice (some ⟨go9, 0, none⟩) x3_1.length co9) y187 := (by rw [hw, Ny187.out]; exact HP10.1); clear HP10; have n0_ := Aside0.mk (hp_); have n1_ := Aside0.mk ((by rw [hw]; exact below_set (HB.out) GB9.out : Below w.heap.size w w11)); clear HO_3; clear HB; have HO_3 := n0_; have HB := n1_; clear n0_ n1_; clear hg hw hp_))
                go_loopg [5] k1 (fun kq v5 w' => ∃ (x3_2 : List Int) (x5_2 : Int), v5 = .int .i64 x5_2 ∧ Aside0 (coset_orders.l1 kq l0 x3_2 x11_1 x5_2 (l0.length : Int) x11_1 = some r) ∧ Aside0 (kq ≤ k1) ∧ Aside0 (Kd.R (Kd.int .i64) 3 w' w.heap.size (fun _ => True) (.slice (some ⟨go9, 0, none⟩) x3_1.length co9) x3_2) ∧ Aside0 (Below w.heap.size w w'))
                case atStart => exact ⟨(y187), (x11_1), (by first | rfl | (simp; done) | (simp [*]; done)), H', ⟨Nat.le_refl _⟩, ⟨by (with_reducible repeat (first | apply Kd.R_alloc | apply Kd.R_drewN | apply Kd.R_drew)); exact HO_3.out⟩, ⟨by repeat (first | (with_reducible first | exact HB.out | apply below_alloc | apply pw_below_drewN | apply below_drew1) | exact HB.out)⟩⟩
                case round =>
                  clear H'
                  try clear c2
                  try clear c2b0
                  try clear c2b1
                  try clear p2
                  try clear c3
                  try clear c3b0
                  try clear c3b1
                  try clear c6
                  try clear c6b0
                  try clear c7
                  try clear c7b0
                  try clear c8
                  try clear c8b0
                  try clear p9
                  try clear q9
                  try clear hx9
                  try clear hf9
                  try clear hx9_0
                  try clear p2
                  try clear p9
                  try clear q9
                  obtain ⟨x3_2, x5_2, rfl, HA, HK2, HO_3, HB⟩ := hrel
                  have hl3_2 := (Kd.R_reads' HO_3.out).1
                  rw [hl3_2] at HO_3
                  (try simp only [hl3_2])
                  cases gk with
                  | zero => exact absurd HA.out (by simp [coset_orders.l1])
                  | succ k2 =>
                    have H := HA.out
                    clear HA
                    simp only [coset_orders.l1] at H
                    by_cases c12 : x5_2 = 0
                    · rw [if_pos c12] at H
                      have c12b0 : (x5_2 == 0) = true := beq_iff_eq.mpr c12
                      have c12b1 : (x5_2 != 0) = false := bne_eq_false_iff_eq.mpr c12
                      clear c12
                      have H' := Aside0.mk H
                      clear H
                      go_wp2
                      (try simp only [← hl3_2])
                      go_roundg k2
                      case measure => have := HK1.out; have := HK2.out; omega
                      case rel => exact ⟨(x3_2), (wrap64 (x11_1 + 1)), (by first | rfl | (simp; done) | (simp [*]; done)), H', ⟨by have := HK1.out; have := HK2.out; omega⟩, ⟨by (try simp only [hl3_2]); (with_reducible repeat (first | apply Kd.R_alloc | apply Kd.R_drewN | apply Kd.R_drew)); exact HO_3.out⟩, ⟨by repeat (first | (with_reducible first | exact HB.out | apply below_alloc | apply pw_below_drewN | apply below_drew1) | exact HB.out)⟩⟩
                    · rw [if_neg c12] at H
                      have c12b0 : (x5_2 == 0) = false := beq_eq_false_iff_ne.mpr c12
                      have c12b1 : (x5_2 != 0) = true := bne_iff_ne.mpr c12
                      by_cases c13 : 0 ≤ x11_1
                      · rw [if_pos c13] at H
                        have c13b0 : decide (0 ≤ x11_1) = true := decide_eq_true c13
                        clear c13
                        by_cases c14 : x11_1 < (x3_2.length : Int)
                        · rw [if_pos c14] at H
                          have c14b0 : decide (x11_1 < (x3_2.length : Int)) = true := decide_eq_true c14
                          have c14b0l := c14b0
                          try simp only [hl3_2] at c14b0l
                          clear c14
                          obtain ⟨y189, hy189⟩ : ∃ y_ : List Int, y_ = (x3_2.set (x11_1 : Int).toNat (wrap64 ((rd x3_2 x11_1) + 1))) := ⟨_, rfl⟩
                          replace H : (if 0 ≤ x5_2 then (if x5_2 < (l0.length : Int) then (if x11_1 < ((rd_L1 l0 x5_2).length : Int) then (coset_orders.l1 k2 l0 y189 x11_1 (rd (rd_L1 l0 x5_2) x11_1) (l0.length : Int) x11_1) else (none)) else (none)) else (none)) = some r := by first | (rw [hy189]; with_reducible exact H) | (have H2_ := (Option.bind_some _ _).symm.trans H; rw [hy189]; with_reducible exact H2_) | (have H2_ := (Option.bind_some _ _).symm.trans H; with_reducible exact H2_) | with_reducible exact H | (rw [hy189]; exact H) | exact H
                          have Ny189 := Aside0.mk hy189
                          clear hy189
                          by_cases c16 : 0 ≤ x5_2
                          · rw [if_pos c16] at H
                            have c16b0 : decide (0 ≤ x5_2) = true := decide_eq_true c16
                            clear c16
                            by_cases c17 : x5_2 < (l0.length : Int)
                            · rw [if_pos c17] at H
                              have c17b0 : decide (x5_2 < (l0.length : Int)) = true := decide_eq_true c17
                              have c17b0l := c17b0
                              try simp only [hl3_2] at c17b0l
                              clear c17
                              by_cases c18 : x11_1 < ((rd_L1 l0 x5_2).length : Int)
                              · rw [if_pos c18] at H
                                have c18b0 : decide (x11_1 < ((rd_L1 l0 x5_2).length : Int)) = true := decide_eq_true c18
                                have c18b0l := c18b0
                                try simp only [hl3_2] at c18b0l
                                clear c18
                                have H' := Aside0.mk H
                                clear H
                                have p188 : 0 ≤ (x11_1 : Int) := of_decide_eq_true (by first | (with_reducible assumption) | assumption)
                                have q188 : x11_1 < (x3_2.length : Int) := of_decide_eq_true (by first | (with_reducible assumption) | assumption)
                                obtain ⟨ad188, e188, hx188_0⟩ := Kd.at_int (Kd.R_reads' HO_3.out).2.2 x11_1 p188 q188
                                obtain rfl : (⟨go9, 0, none⟩ : Addr) = ad188 := (by injection e188)
                                (first | simp only [add_plain] at hx188_0 | simp only [add_at] at hx188_0 | simp only [Addr.add, Nat.zero_add] at hx188_0 | skip)
                                replace p188 := eq_true p188
                                replace q188 := eq_true q188
                                have p15 : 0 ≤ (x11_1 : Int) := of_decide_eq_true (by first | (with_reducible assumption) | assumption)
                                have q15 : (x11_1 : Int) < ((x3_2.length : Int) : Int) := of_decide_eq_true (by first | (with_reducible assumption) | assumption)
                                obtain ⟨hx15_0, hf15_0⟩ := Kd.R_celln 0 HO_3.out (x11_1 : Int) p15 q15
                                replace p15 := eq_true p15
                                replace q15 := eq_true q15
                                have HP19 := Kd.R_putg HO_3.out (x11_1 : Int) (wrap64 ((rd x3_2 x11_1) + 1))
                                go_wp2_with (first | ((with_reducible refine gate_store (t := 3) (p := 32) rfl ?_); refine store_event (t := 3) (p := 32) (v := ?vo_w20) (w1 := (wr.setCell ⟨go9, (x11_1 : Int).toNat, none⟩ (.int .i64 (wrap64 ((rd x3_2 x11_1) + 1))))) ?hg ?ho ?hn ?hr ?_; (case ho => rfl); (case hg => rfl); (case hn => rfl); (case hr => first | (go_simp; done) | (go_simp; rfl)); intro w20 hw; have hg : wr.grownBy w20 (some go9) := (by rw [hw]; exact HP19.2); have hp_ : Kd.R (Kd.int .i64) 3 w20 w.heap.size (fun _ => True) (.slice (some ⟨go9, 0, none⟩) x3_2.length co9) y189 := (by rw [hw, Ny189.out]; exact HP19.1); clear HP19; have n0_ := Aside0.mk (hp_); have n1_ := Aside0.mk ((by rw [hw]; exact below_set (HB.out) GB9.out : Below w.heap.size w w20)); clear HO_3; clear HB; have HO_3 := n0_; have HB := n1_; clear n0_ n1_; clear hg hw hp_; have p190 : 0 ≤ (x5_2 : Int) := of_decide_eq_true (by first | (with_reducible assumption) | assumption); have q190 : x5_2 < (l0.length : Int) := of_decide_eq_true (by first | (with_reducible assumption) | assumption); obtain ⟨ad190, A190_0, c190_0, e190, hx190_0, hl190_0, hi190_0⟩ := at_L1 HR0.out x5_2 p190 q190; cases e190; replace hx190_0 := (HB.out.cell (World.block_lt_of_cell? w _ hx190_0)).trans hx190_0; have HR190_0 := Aside0.mk hi190_0; have HC190_0 := Aside0.mk hl190_0; clear hi190_0 hl190_0; replace p190 := eq_true p190; replace q190 := eq_true q190; have p191 : 0 ≤ (x11_1 : Int) := of_decide_eq_true (by first | (with_reducible assumption) | assumption); have q191 : x11_1 < ((rd_L1 l0 x5_2).length : Int) := of_decide_eq_true (by first | (with_reducible assumption) | assumption); obtain ⟨ad191, e191, hx191_0⟩ := Kd.at_int HR190_0.out x11_1 p191 q191; cases e191; replace hx191_0 := (HB.out.cell (World.block_lt_of_cell? w _ hx191_0)).trans hx191_0; replace p191 := eq_true p191; replace q191 := eq_true q191))
                                (try simp only [← hl3_2])
                                go_roundg k2
                                case measure => have := HK1.out; have := HK2.out; omega
                                case rel => exact ⟨(y189), (rd (rd_L1 l0 x5_2) x11_1), (by first | rfl | (simp; done) | (simp [*]; done)), H', ⟨by have := HK1.out; have := HK2.out; omega⟩, ⟨by (try simp only [hl3_2]); (with_reducible repeat (first | apply Kd.R_alloc | apply Kd.R_drewN | apply Kd.R_drew)); exact HO_3.out⟩, ⟨by repeat (first | (with_reducible first | exact HB.out | apply below_alloc | apply pw_below_drewN | apply below_drew1) | exact HB.out)⟩⟩
                              · rw [if_neg c18] at H
                                exact absurd H (by simp)
                            · rw [if_neg c17] at H
                              exact absurd H (by simp)
                          · rw [if_neg c16] at H
                            exact absurd H (by simp)
                        · rw [if_neg c14] at H
                          exact absurd H (by simp)
                      · rw [if_neg c13] at H
                        exact absurd H (by simp)
              · rw [if_neg c8] at H
                exact absurd H (by simp)
            · rw [if_neg c7] at H
              exact absurd H (by simp)
          · rw [if_neg c6] at H
            have c6b0 : decide (x11_1 < (l0.length : Int)) = false := decide_eq_false c6
            have c6b0l := c6b0
            try simp only [hl3_2] at c6b0l
            clear c6
            obtain rfl := Option.some.inj H
            go_wp2
            go_ret
            exact ⟨_, by first | rfl | (simp [errW_none, errW_some] <;> rfl) | (simp [*, errW_none, errW_some] <;> rfl), by (with_reducible repeat (first | apply Kd.R_alloc | apply Kd.R_drewN | apply Kd.R_drew)); exact HO_3.out, by repeat (first | (with_reducible first | exact HB.out | apply below_alloc | apply pw_below_drewN | apply below_drew1) | exact HB.out)⟩
    · rw [if_neg c3] at H
      exact absurd H (by simp)
  · rw [if_neg c2] at H
    exact absurd H (by simp)
def coset_Orders.f (k : Nat) (l0 : List (List Int)) : Option (List Int × Int) := (coset_CheckTable.f k l0).bind fun t192 => (if t192 = 0 then ((coset_orders.f k l0).bind fun t193 => (some (t193, 0))) else (some (([] : List Int), t192)))
theorem coset_Orders.mono : ∀ a0 k, LeO (coset_Orders.f k a0) (coset_Orders.f (k + 1) a0) := by
  intro a0 k
  unfold coset_Orders.f
  repeat' first
      | (with_reducible exact coset_CheckTable.mono _ _)
      | (with_reducible exact coset_orders.mono _ _)
      | (with_reducible exact LeO.refl _)
      | (with_reducible exact LeO.none _)
      | (with_reducible refine LeO.ite ?_ ?_)
      | (with_reducible refine LeO.bind ?_ (fun _ => ?_))
      | exact coset_CheckTable.mono _ _
      | exact coset_orders.mono _ _
      | exact LeO.none _
      | refine LeO.ite ?_ ?_
      | refine LeO.bind ?_ (fun _ => ?_)
set_option maxHeartbeats 8000000 in
set_option maxRecDepth 100000 in
theorem coset_Orders.calls (k : Nat) (A0 : Option Addr) (c0 : Nat) (l0 : List (List Int)) (r1 : List Int) (r2 : Int) (w : World) (hr0 : Kd.C (Kd.slice 3 (Kd.int .i64)) w A0 l0.length l0) (hc0 : l0.length ≤ c0) (h : coset_Orders.f k l0 = some (r1, r2)) :
    Calls Try.prog 36 #[.slice A0 l0.length c0] w fun e w' => ∃ v0_ : Value, e = .returned (.tuple #[v0_, .int .i64 r2]) ∧ Kd.R (Kd.int .i64) 3 w' w.heap.size (fun _ => True) v0_ r1 ∧ Below w.heap.size w w' := by
  have HR0 := Aside0.mk hr0
  have HC0 := Aside0.mk hc0
  clear hr0 hc0
  have HB := Aside0.mk (Below.refl w.heap.size w)
  have H : ((coset_CheckTable.f k l0).bind fun t192 => (if t192 = 0 then ((coset_orders.f k l0).bind fun t193 => (some (t193, 0))) else (some (([] : List Int), t192)))) = some (r1, r2) := h
  clear h
  replace H := Option.bind_eq_some_iff.mp H
  obtain ⟨t192, A20, H⟩ := H
  replace H : (if t192 = 0 then ((coset_orders.f k l0).bind fun t193 => (some (t193, 0))) else (some (([] : List Int), t192))) = some (r1, r2) := H
  have A2 := Aside0.mk A20
  clear A20
  by_cases c3 : t192 = 0
  · rw [if_pos c3] at H
    have c3b0 : (t192 == 0) = true := beq_iff_eq.mpr c3
    have c3b1 : (t192 != 0) = false := bne_eq_false_iff_eq.mpr c3
    clear c3
    replace H := Option.bind_eq_some_iff.mp H
    obtain ⟨t193, A40, H⟩ := H
    replace H : (some (t193, 0)) = some (r1, r2) := H
    have A4 := Aside0.mk A40
    clear A40
    simp only [Option.some.injEq, Prod.mk.injEq] at H
    obtain ⟨rfl, rfl⟩ := H
    go_enter Try.func36, Try.ntmps36
    go_wp2_with (first | ((with_reducible refine gate_callee (f := 38) rfl ?_); refine goesL_ (some 6) rfl rfl Try.func38 (by kernel_rfl) rfl #[.slice A0 l0.length c0] rfl (by (try simp only [List.map_toArray, List.map_cons, List.map_nil]); first | done | rfl | (simp only [List.length_drop, List.length_take]; rfl)) ?_; (with_reducible refine (coset_CheckTable.calls k _ _ l0 t192 _ ?side1 ?side2 A2.out).mono ?_); (case side1 => repeat (first | exact HR0.out | (with_reducible refine Kd.C_alloc ?_ _) | (with_reducible refine Kd.C_drewN ?_ _) | (with_reducible refine Kd.C_drew ?_))); (case side2 => exact HC0.out); rintro e w5 ⟨rfl, hb⟩; refine ⟨_, rfl, ?_⟩; have n0_ := Aside0.mk (below_step (by repeat (first | (with_reducible first | exact HB.out | apply below_alloc | apply pw_below_drewN | apply below_drew1) | exact HB.out)) hb); clear HB; have HB := n0_; clear n0_; (try clear hb); (try clear hb2); (try clear hk); (try clear hi)) | ((with_reducible refine gate_callee (f := 66) rfl ?_); refine goesL_ (some 11) rfl rfl Try.func66 (by kernel_rfl) rfl #[.slice A0 l0.length c0] rfl (by (try simp only [List.map_toArray, List.map_cons, List.map_nil]); first | done | rfl | (simp only [List.length_drop, List.length_take]; rfl)) ?_; (with_reducible refine (coset_orders.calls k _ _ l0 t193 _ ?side1 ?side2 A4.out).mono ?_); (case side1 => repeat (first | exact (Kd.C_below HR0.out HB.out) | (with_reducible refine Kd.C_alloc ?_ _) | (with_reducible refine Kd.C_drewN ?_ _) | (with_reducible refine Kd.C_drew ?_))); (case side2 => exact HC0.out); rintro e w6 ⟨v194, rfl, ho0, hb⟩; refine ⟨_, rfl, ?_⟩; have n0_ := Aside0.mk (Kd.R_lower ho0 (below_size (by repeat (first | (with_reducible first | exact HB.out | apply below_alloc | apply pw_below_drewN | apply below_drew1) | exact HB.out)))); have n1_ := Aside0.mk (below_step (by repeat (first | (with_reducible first | exact HB.out | apply below_alloc | apply pw_below_drewN | apply below_drew1) | exact HB.out)) hb); clear HB; have HO195 := n0_; have HB := n1_; clear n0_ n1_; (try clear hb); (try clear hb2); (try clear hk); (try clear hi); (try clear ho0)))
    go_ret2
    exact ⟨_, by first | rfl | (simp [errW_none, errW_some] <;> rfl) | (simp [*, errW_none, errW_some] <;> rfl), by (with_reducible repeat (first | apply Kd.R_alloc | apply Kd.R_drewN | apply Kd.R_drew)); exact HO195.out, by repeat (first | (with_reducible first | exact HB.out | apply below_alloc | apply pw_below_drewN | apply below_drew1) | exact HB.out)⟩
  · rw [if_neg c3] at H
    have c3b0 : (t192 == 0) = false := beq_eq_false_iff_ne.mpr c3
    have c3b1 : (t192 != 0) = true := bne_iff_ne.mpr c3
    simp only [Option.some.injEq, Prod.mk.injEq] at H
    obtain ⟨rfl, rfl⟩ := H
    go_enter Try.func36, Try.ntmps36
    go_wp2_with (first | ((with_reducible refine gate_callee (f := 38) rfl ?_); refine goesL_ (some 6) rfl rfl Try.func38 (by kernel_rfl) rfl #[.slice A0 l0.length c0] rfl (by (try simp only [List.map_toArray, List.map_cons, List.map_nil]); first | done | rfl | (simp only [List.length_drop, List.length_take]; rfl)) ?_; (with_reducible refine (coset_CheckTable.calls k _ _ l0 t192 _ ?side1 ?side2 A2.out).mono ?_); (case side1 => repeat (first | exact HR0.out | (with_reducible refine Kd.C_alloc ?_ _) | (with_reducible refine Kd.C_drewN ?_ _) | (with_reducible refine Kd.C_drew ?_))); (case side2 => exact HC0.out); rintro e w7 ⟨rfl, hb⟩; refine ⟨_, rfl, ?_⟩; have n0_ := Aside0.mk (below_step (by repeat (first | (with_reducible first | exact HB.out | apply below_alloc | apply pw_below_drewN | apply below_drew1) | exact HB.out)) hb); clear HB; have HB := n0_; clear n0_; (try clear hb); (try clear hb2); (try clear hk); (try clear hi)))
    go_ret2
    exact ⟨_, by first | rfl | (simp [errW_none, errW_some] <;> rfl) | (simp [*, errW_none, errW_some] <;> rfl), by first | exact Kd.R_nil _ _ _ _ _ | exact Kd.N_nil _ _ _ _ _ | exact Kd.V_nil _ _ _ _ _ | exact Kd.Q_nil _ _ _ _ _ | exact Kd.S_nil _ _ _ _ _, by repeat (first | (with_reducible first | exact HB.out | apply below_alloc | apply pw_below_drewN | apply below_drew1) | exact HB.out)⟩
mutual
def galoisref27_rows.l0 : Nat → List (List Int) → Int → Option (Bool)
  | 0, _, _ => none
  | k + 1, x0, x3 => if x3 < (x0.length : Int) then (galoisref27_rows.l1 k x0 x3 0) else (some true)
def galoisref27_rows.l1 : Nat → List (List Int) → Int → Int → Option (Bool)
  | 0, _, _, _ => none
  | k + 1, x0, x3, x4 => if x4 < (x0.length : Int) then (galoisref27_rows.l2 k x0 x3 x4 0) else (galoisref27_rows.l0 k x0 (wrap64 (x3 + 1)))
def galoisref27_rows.l2 : Nat → List (List Int) → Int → Int → Int → Option (Bool)
  | 0, _, _, _, _ => none
  | k + 1, x0, x3, x4, x5 => if x5 < x4 then (if 0 ≤ x3 then (if x3 < (x0.length : Int) then (if 0 ≤ x5 then (if x5 < ((rd_L1 x0 x3).length : Int) then (if 0 ≤ x4 then (if x4 < ((rd_L1 x0 x3).length : Int) then (if (rd (rd_L1 x0 x3) x5) = (rd (rd_L1 x0 x3) x4) then (some false) else (galoisref27_rows.l2 k x0 x3 x4 (wrap64 (x5 + 1)))) else (none)) else (none)) else (none)) else (none)) else (none)) else (none)) else (galoisref27_rows.l1 k x0 x3 (wrap64 (x4 + 1)))
end
def galoisref27_rows.f (k : Nat) (l0 : List (List Int)) : Option (Bool) := galoisref27_rows.l0 k l0 0
theorem galoisref27_rows.mono_l : ∀ k, (∀ y0 y1, LeO (galoisref27_rows.l0 k y0 y1) (galoisref27_rows.l0 (k + 1) y0 y1)) ∧ (∀ y0 y1 y2, LeO (galoisref27_rows.l1 k y0 y1 y2) (galoisref27_rows.l1 (k + 1) y0 y1 y2)) ∧ (∀ y0 y1 y2 y3, LeO (galoisref27_rows.l2 k y0 y1 y2 y3) (galoisref27_rows.l2 (k + 1) y0 y1 y2 y3))
  | 0 => ⟨fun _ _ r h => by simp [galoisref27_rows.l0] at h, fun _ _ _ r h => by simp [galoisref27_rows.l1] at h, fun _ _ _ _ r h => by simp [galoisref27_rows.l2] at h⟩
  | k + 1 => by
    obtain ⟨ih0, ih1, ih2⟩ := galoisref27_rows.mono_l k
    refine ⟨?_, ?_, ?_⟩
    · intro y0 y1
      unfold galoisref27_rows.l0
      repeat' first
      | (with_reducible exact ih0 _ _)
      | (with_reducible exact ih1 _ _ _)
      | (with_reducible exact ih2 _ _ _ _)
      | (with_reducible exact LeO.refl _)
      | (with_reducible exact LeO.none _)
      | (with_reducible refine LeO.ite ?_ ?_)
      | (with_reducible refine LeO.bind ?_ (fun _ => ?_))
      | exact ih0 _ _
      | exact ih1 _ _ _
      | exact ih2 _ _ _ _
      | exact LeO.none _
      | refine LeO.ite ?_ ?_
      | refine LeO.bind ?_ (fun _ => ?_)
    · intro y0 y1 y2
      unfold galoisref27_rows.l1
      repeat' first
      | (with_reducible exact ih0 _ _)
      | (with_reducible exact ih1 _ _ _)
      | (with_reducible exact ih2 _ _ _ _)
      | (with_reducible exact LeO.refl _)
      | (with_reducible exact LeO.none _)
      | (with_reducible refine LeO.ite ?_ ?_)
      | (with_reducible refine LeO.bind ?_ (fun _ => ?_))
      | exact ih0 _ _
      | exact ih1 _ _ _
      | exact ih2 _ _ _ _
      | exact LeO.none _
      | refine LeO.ite ?_ ?_
      | refine LeO.bind ?_ (fun _ => ?_)
    · intro y0 y1 y2 y3
      unfold galoisref27_rows.l2
      repeat' first
      | (with_reducible exact ih0 _ _)
      | (with_reducible exact ih1 _ _ _)
      | (with_reducible exact ih2 _ _ _ _)
      | (with_reducible exact LeO.refl _)
      | (with_reducible exact LeO.none _)
      | (with_reducible refine LeO.ite ?_ ?_)
      | (with_reducible refine LeO.bind ?_ (fun _ => ?_))
      | exact ih0 _ _
      | exact ih1 _ _ _
      | exact ih2 _ _ _ _
      | exact LeO.none _
      | refine LeO.ite ?_ ?_
      | refine LeO.bind ?_ (fun _ => ?_)
theorem galoisref27_rows.mono : ∀ a0 k, LeO (galoisref27_rows.f k a0) (galoisref27_rows.f (k + 1) a0) := by
  intro a0 k
  obtain ⟨ih0, ih1, ih2⟩ := galoisref27_rows.mono_l k
  unfold galoisref27_rows.f
  repeat' first
      | (with_reducible exact ih0 _ _)
      | (with_reducible exact ih1 _ _ _)
      | (with_reducible exact ih2 _ _ _ _)
      | (with_reducible exact LeO.refl _)
      | (with_reducible exact LeO.none _)
      | (with_reducible refine LeO.ite ?_ ?_)
      | (with_reducible refine LeO.bind ?_ (fun _ => ?_))
      | exact ih0 _ _
      | exact ih1 _ _ _
      | exact ih2 _ _ _ _
      | exact LeO.none _
      | refine LeO.ite ?_ ?_
      | refine LeO.bind ?_ (fun _ => ?_)
set_option maxHeartbeats 8000000 in
set_option maxRecDepth 100000 in
theorem galoisref27_rows.calls (k : Nat) (A0 : Option Addr) (c0 : Nat) (l0 : List (List Int)) (r : Bool) (w : World) (hr0 : Kd.C (Kd.slice 3 (Kd.int .i64)) w A0 l0.length l0) (hc0 : l0.length ≤ c0) (h : galoisref27_rows.f k l0 = some r) :
    Calls Try.prog 67 #[.slice A0 l0.length c0] w fun e w' => e = .returned (.bool r) ∧ Drawn0 w w' := by
  have HR0 := Aside0.mk hr0
  have HC0 := Aside0.mk hc0
  clear hr0 hc0
  have H : (galoisref27_rows.l0 k l0 0) = some r := h
  clear h
  have H' := Aside0.mk H
  clear H
  go_enter Try.func67, Try.ntmps67
  go_wp2
  repeat (go_quiet (fail); try go_wp2)
  go_loopg [3] k (fun kq v3 w' => ∃ (x3_1 : Int), v3 = .int .i64 x3_1 ∧ Aside0 (galoisref27_rows.l0 kq l0 x3_1 = some r) ∧ Aside0 (kq ≤ k) ∧ Drawn0 w w')
  case atStart => exact ⟨(0), (by first | rfl | (simp; done) | (simp [*]; done)), H', ⟨Nat.le_refl _⟩, by repeat (first | exact Drawn0.refl _ | apply Drawn0.step)⟩
  case round =>
    clear H'
    obtain ⟨x3_1, rfl, HA, HK1, ⟨m1, rfl⟩⟩ := hrel
    cases gk with
    | zero => exact absurd HA.out (by simp [galoisref27_rows.l0])
    | succ k1 =>
      have H := HA.out
      clear HA
      simp only [galoisref27_rows.l0] at H
      by_cases c2 : x3_1 < (l0.length : Int)
      · rw [if_pos c2] at H
        have c2b0 : decide (x3_1 < (l0.length : Int)) = true := decide_eq_true c2
        clear c2
        have H' := Aside0.mk H
        clear H
        go_wp2
        repeat (go_quiet (fail); try go_wp2)
        go_loopg [4] k1 (fun kq v4 w' => ∃ (x4_2 : Int), v4 = .int .i64 x4_2 ∧ Aside0 (galoisref27_rows.l1 kq l0 x3_1 x4_2 = some r) ∧ Aside0 (kq ≤ k1) ∧ Drawn0 w w')
        case atStart => exact ⟨(0), (by first | rfl | (simp; done) | (simp [*]; done)), H', ⟨Nat.le_refl _⟩, by repeat (first | exact Drawn0.refl _ | apply Drawn0.step)⟩
        case round =>
          clear H'
          try clear c2
          try clear c2b0
          try clear p2
          obtain ⟨x4_2, rfl, HA, HK2, ⟨m2, rfl⟩⟩ := hrel
          cases gk with
          | zero => exact absurd HA.out (by simp [galoisref27_rows.l1])
          | succ k2 =>
            have H := HA.out
            clear HA
            simp only [galoisref27_rows.l1] at H
            by_cases c3 : x4_2 < (l0.length : Int)
            · rw [if_pos c3] at H
              have c3b0 : decide (x4_2 < (l0.length : Int)) = true := decide_eq_true c3
              clear c3
              have H' := Aside0.mk H
              clear H
              go_wp2
              repeat (go_quiet (fail); try go_wp2)
              go_loopg [5] k2 (fun kq v5 w' => ∃ (x5_3 : Int), v5 = .int .i64 x5_3 ∧ Aside0 (galoisref27_rows.l2 kq l0 x3_1 x4_2 x5_3 = some r) ∧ Aside0 (kq ≤ k2) ∧ Drawn0 w w')
              case atStart => exact ⟨(0), (by first | rfl | (simp; done) | (simp [*]; done)), H', ⟨Nat.le_refl _⟩, by repeat (first | exact Drawn0.refl _ | apply Drawn0.step)⟩
              case round =>
                clear H'
                try clear c2
                try clear c2b0
                try clear p2
                try clear c3
                try clear c3b0
                try clear p2
                obtain ⟨x5_3, rfl, HA, HK3, ⟨m3, rfl⟩⟩ := hrel
                cases gk with
                | zero => exact absurd HA.out (by simp [galoisref27_rows.l2])
                | succ k3 =>
                  have H := HA.out
                  clear HA
                  simp only [galoisref27_rows.l2] at H
                  by_cases c4 : x5_3 < x4_2
                  · rw [if_pos c4] at H
                    have c4b0 : decide (x5_3 < x4_2) = true := decide_eq_true c4
                    clear c4
                    by_cases c5 : 0 ≤ x3_1
                    · rw [if_pos c5] at H
                      have c5b0 : decide (0 ≤ x3_1) = true := decide_eq_true c5
                      clear c5
                      by_cases c6 : x3_1 < (l0.length : Int)
                      · rw [if_pos c6] at H
                        have c6b0 : decide (x3_1 < (l0.length : Int)) = true := decide_eq_true c6
                        clear c6
                        by_cases c7 : 0 ≤ x5_3
                        · rw [if_pos c7] at H
                          have c7b0 : decide (0 ≤ x5_3) = true := decide_eq_true c7
                          clear c7
                          by_cases c8 : x5_3 < ((rd_L1 l0 x3_1).length : Int)
                          · rw [if_pos c8] at H
                            have c8b0 : decide (x5_3 < ((rd_L1 l0 x3_1).length : Int)) = true := decide_eq_true c8
                            clear c8
                            by_cases c9 : 0 ≤ x4_2
                            · rw [if_pos c9] at H
                              have c9b0 : decide (0 ≤ x4_2) = true := decide_eq_true c9
                              clear c9
                              by_cases c10 : x4_2 < ((rd_L1 l0 x3_1).length : Int)
                              · rw [if_pos c10] at H
                                have c10b0 : decide (x4_2 < ((rd_L1 l0 x3_1).length : Int)) = true := decide_eq_true c10
                                clear c10
                                by_cases c11 : (rd (rd_L1 l0 x3_1) x5_3) = (rd (rd_L1 l0 x3_1) x4_2)
                                · rw [if_pos c11] at H
                                  have c11b0 : ((rd (rd_L1 l0 x3_1) x5_3) == (rd (rd_L1 l0 x3_1) x4_2)) = true := beq_iff_eq.mpr c11
                                  have c11b1 : ((rd (rd_L1 l0 x3_1) x5_3) != (rd (rd_L1 l0 x3_1) x4_2)) = false := bne_eq_false_iff_eq.mpr c11
                                  clear c11
                                  obtain rfl := Option.some.inj H
                                  have p196 : 0 ≤ (x3_1 : Int) := of_decide_eq_true (by first | (with_reducible assumption) | assumption)
                                  have q196 : x3_1 < (l0.length : Int) := of_decide_eq_true (by first | (with_reducible assumption) | assumption)
                                  obtain ⟨ad196, A196_0, c196_0, e196, hx196_0, hl196_0, hi196_0⟩ := at_L1 HR0.out x3_1 p196 q196
                                  cases e196
                                  have HR196_0 := Aside0.mk hi196_0
                                  have HC196_0 := Aside0.mk hl196_0
                                  clear hi196_0 hl196_0
                                  replace p196 := eq_true p196
                                  replace q196 := eq_true q196
                                  have p197 : 0 ≤ (x5_3 : Int) := of_decide_eq_true (by first | (with_reducible assumption) | assumption)
                                  have q197 : x5_3 < ((rd_L1 l0 x3_1).length : Int) := of_decide_eq_true (by first | (with_reducible assumption) | assumption)
                                  obtain ⟨ad197, e197, hx197_0⟩ := Kd.at_int HR196_0.out x5_3 p197 q197
                                  cases e197
                                  replace p197 := eq_true p197
                                  replace q197 := eq_true q197
                                  have p198 : 0 ≤ (x3_1 : Int) := of_decide_eq_true (by first | (with_reducible assumption) | assumption)
                                  have q198 : x3_1 < (l0.length : Int) := of_decide_eq_true (by first | (with_reducible assumption) | assumption)
                                  obtain ⟨ad198, A198_0, c198_0, e198, hx198_0, hl198_0, hi198_0⟩ := at_L1 HR0.out x3_1 p198 q198
                                  obtain rfl : ad196 = ad198 := (by injection e198)
                                  have HR198_0 := Aside0.mk hi198_0
                                  have HC198_0 := Aside0.mk hl198_0
                                  clear hi198_0 hl198_0
                                  replace p198 := eq_true p198
                                  replace q198 := eq_true q198
                                  have ea_ := Option.some.inj (hx196_0.symm.trans hx198_0)
                                  injection ea_ with ea_ en_ ec_
                                  subst ea_
                                  subst ec_
                                  clear en_
                                  have p199 : 0 ≤ (x4_2 : Int) := of_decide_eq_true (by first | (with_reducible assumption) | assumption)
                                  have q199 : x4_2 < ((rd_L1 l0 x3_1).length : Int) := of_decide_eq_true (by first | (with_reducible assumption) | assumption)
                                  obtain ⟨ad199, e199, hx199_0⟩ := Kd.at_int HR198_0.out x4_2 p199 q199
                                  cases e199
                                  replace p199 := eq_true p199
                                  replace q199 := eq_true q199
                                  go_wp2
                                  repeat (go_quiet (fail); try go_wp2)
                                  go_ret
                                  exact ⟨by first | rfl | (simp; done) | (simp [*]; done), by repeat (first | exact Drawn0.refl _ | apply Drawn0.step)⟩
                                · rw [if_neg c11] at H
                                  have c11b0 : ((rd (rd_L1 l0 x3_1) x5_3) == (rd (rd_L1 l0 x3_1) x4_2)) = false := beq_eq_false_iff_ne.mpr c11
                                  have c11b1 : ((rd (rd_L1 l0 x3_1) x5_3) != (rd (rd_L1 l0 x3_1) x4_2)) = true := bne_iff_ne.mpr c11
                                  have H' := Aside0.mk H
                                  clear H
                                  have p196 : 0 ≤ (x3_1 : Int) := of_decide_eq_true (by first | (with_reducible assumption) | assumption)
                                  have q196 : x3_1 < (l0.length : Int) := of_decide_eq_true (by first | (with_reducible assumption) | assumption)
                                  obtain ⟨ad196, A196_0, c196_0, e196, hx196_0, hl196_0, hi196_0⟩ := at_L1 HR0.out x3_1 p196 q196
                                  cases e196
                                  have HR196_0 := Aside0.mk hi196_0
                                  have HC196_0 := Aside0.mk hl196_0
                                  clear hi196_0 hl196_0
                                  replace p196 := eq_true p196
                                  replace q196 := eq_true q196
                                  have p197 : 0 ≤ (x5_3 : Int) := of_decide_eq_true (by first | (with_reducible assumption) | assumption)
                                  have q197 : x5_3 < ((rd_L1 l0 x3_1).length : Int) := of_decide_eq_true (by first | (with_reducible assumption) | assumption)
                                  obtain ⟨ad197, e197, hx197_0⟩ := Kd.at_int HR196_0.out x5_3 p197 q197
                                  cases e197
                                  replace p197 := eq_true p197
                                  replace q197 := eq_true q197
                                  have p198 : 0 ≤ (x3_1 : Int) := of_decide_eq_true (by first | (with_reducible assumption) | assumption)
                                  have q198 : x3_1 < (l0.length : Int) := of_decide_eq_true (by first | (with_reducible assumption) | assumption)
                                  obtain ⟨ad198, A198_0, c198_0, e198, hx198_0, hl198_0, hi198_0⟩ := at_L1 HR0.out x3_1 p198 q198
                                  obtain rfl : ad196 = ad198 := (by injection e198)
                                  have HR198_0 := Aside0.mk hi198_0
                                  have HC198_0 := Aside0.mk hl198_0
                                  clear hi198_0 hl198_0
                                  replace p198 := eq_true p198
                                  replace q198 := eq_true q198
                                  have ea_ := Option.some.inj (hx196_0.symm.trans hx198_0)
                                  injection ea_ with ea_ en_ ec_
                                  subst ea_
                                  subst ec_
                                  clear en_
                                  have p199 : 0 ≤ (x4_2 : Int) := of_decide_eq_true (by first | (with_reducible assumption) | assumption)
                                  have q199 : x4_2 < ((rd_L1 l0 x3_1).length : Int) := of_decide_eq_true (by first | (with_reducible assumption) | assumption)
                                  obtain ⟨ad199, e199, hx199_0⟩ := Kd.at_int HR198_0.out x4_2 p199 q199
                                  cases e199
                                  replace p199 := eq_true p199
                                  replace q199 := eq_true q199
                                  go_wp2
                                  repeat (go_quiet (fail); try go_wp2)
                                  go_roundg k3
                                  case measure => have := HK1.out; have := HK2.out; have := HK3.out; omega
                                  case rel => exact ⟨(wrap64 (x5_3 + 1)), (by first | rfl | (simp; done) | (simp [*]; done)), H', ⟨by have := HK1.out; have := HK2.out; have := HK3.out; omega⟩, by repeat (first | exact Drawn0.refl _ | apply Drawn0.step)⟩
                              · rw [if_neg c10] at H
                                exact absurd H (by simp)
                            · rw [if_neg c9] at H
                              exact absurd H (by simp)
                          · rw [if_neg c8] at H
                            exact absurd H (by simp)
                        · rw [if_neg c7] at H
                          exact absurd H (by simp)
                      · rw [if_neg c6] at H
                        exact absurd H (by simp)
                    · rw [if_neg c5] at H
                      exact absurd H (by simp)
                  · rw [if_neg c4] at H
                    have c4b0 : decide (x5_3 < x4_2) = false := decide_eq_false c4
                    clear c4
                    have H' := Aside0.mk H
                    clear H
                    go_wp2
                    repeat (go_quiet (fail); try go_wp2)
                    go_roundg k3
                    case measure => have := HK1.out; have := HK2.out; have := HK3.out; omega
                    case rel => exact ⟨(wrap64 (x4_2 + 1)), (by first | rfl | (simp; done) | (simp [*]; done)), H', ⟨by have := HK1.out; have := HK2.out; have := HK3.out; omega⟩, by repeat (first | exact Drawn0.refl _ | apply Drawn0.step)⟩
            · rw [if_neg c3] at H
              have c3b0 : decide (x4_2 < (l0.length : Int)) = false := decide_eq_false c3
              clear c3
              have H' := Aside0.mk H
              clear H
              go_wp2
              repeat (go_quiet (fail); try go_wp2)
              go_roundg k2
              case measure => have := HK1.out; have := HK2.out; omega
              case rel => exact ⟨(wrap64 (x3_1 + 1)), (by first | rfl | (simp; done) | (simp [*]; done)), H', ⟨by have := HK1.out; have := HK2.out; omega⟩, by repeat (first | exact Drawn0.refl _ | apply Drawn0.step)⟩
      · rw [if_neg c2] at H
        have c2b0 : decide (x3_1 < (l0.length : Int)) = false := decide_eq_false c2
        clear c2
        obtain rfl := Option.some.inj H
        go_wp2
        repeat (go_quiet (fail); try go_wp2)
        go_ret
        exact ⟨by first | rfl | (simp; done) | (simp [*]; done), by repeat (first | exact Drawn0.refl _ | apply Drawn0.step)⟩
end Go.Proofs.Ytaaaljifclecnaa.PCk
