-- Printed.
import Derived.Test.YtaaaljifclecnaaZCosetDoublesMg0
import Derived.Test.YtaaaljifclecnaaZCosetDoublesPRfx0
import Derived.Test.YtaaaljifclecnaaZCosetDoublesPRfx1
import Derived.Test.YtaaaljifclecnaaZCosetDoublesPRfx2
namespace Go.Proofs.Ytaaaljifclecnaa.PRf
open Go.RowKit Go.Proofs.YtaaaljifclecnaaW.PrintWords Go.Proofs.YtaaaljifclecnaaW.PrintLast Go.Proofs.YtaaaljifclecnaaW.PrintMore
attribute [local go_sem] max2_int min2_int max_two min_two max_three min_three max_four min_four
set_option linter.unusedVariables false
set_option linter.unusedSimpArgs false
def galoisref23_Check.l0 : Nat → Int → Int → List (List Int) → Option (Int)
 | 0, _, _, _ => none
 | k + 1, x4, x142000, x142001 => if x4 < (x142001.length : Int) then (if 0 ≤ x4 then ((galoisref22_Check.f k (rd_L1 x142001 x4)).bind fun t144 => (if t144 = 0 then (if ((rd_L1 x142001 x4).length : Int) = x142000 then (galoisref23_Check.l0 k (wrap64 (x4 + 1)) x142000 x142001) else (some 2)) else (some t144))) else (none)) else (some 0)
def galoisref23_Check.f (k : Nat) (a0_0 : Int) (l0_1 : List (List Int)) : Option (Int) := (galoisref22_Degree.f a0_0).bind fun t142 => (if t142 = 0 then (if (l0_1.length : Int) > 32 then (some 5) else (galoisref23_Check.l0 k 0 a0_0 l0_1)) else (some t142))
set_option maxHeartbeats 8000000 in
set_option maxRecDepth 100000 in
theorem galoisref23_Check.calls (k : Nat) (a0_0 : Int) (A0_1 : Option Addr) (c0_1 : Nat) (l0_1 : List (List Int)) (r : Int) (w : World) (hr0_1 : Kd.C (Kd.slice 3 (Kd.int .i64)) w A0_1 l0_1.length l0_1) (hc0_1 : l0_1.length ≤ c0_1) (h : galoisref23_Check.f k a0_0 l0_1 = some r) :
  Calls Try.prog 14 #[.agg #[.int .i64 a0_0, .slice A0_1 l0_1.length c0_1]] w fun e w' => e = .returned (.int .i64 r) ∧ Below w.heap.size w w' := by
 have hu := Try.underlying24
 have P0 := Aside0.mk hr0_1
 have L0 := Aside0.mk hc0_1
 unfold galoisref23_Check.f at h
 obtain ⟨t1, h1, h⟩ := Option.bind_eq_some_iff.1 h
 have E1 := Aside0.mk h1
 have X := Aside0.mk (blk_new w (.cells #[.int .i64 a0_0, .slice A0_1 l0_1.length c0_1] 24))
 have HB := Aside0.mk (show Below w.heap.size w (w.alloc (.cells #[.int .i64 a0_0, .slice A0_1 l0_1.length c0_1] 24)) from below_alloc (Below.refl _ _) _)
 have x00 := blk_cell X.out 0
 have x01 := blk_cell X.out 1
 have y00 := blk_frozen X.out 0
 have y01 := blk_frozen X.out 1
 clear hr0_1 hc0_1 h1
 by_cases c1 : t1 = 0
 ·subst c1
  rw [if_pos rfl] at h
  by_cases c2 : (l0_1.length : Int) > 32
  ·rw [if_pos c2] at h
   have d2 : decide (32 < (l0_1.length : Int)) = true := decide_eq_true c2
   have d3 : decide (32 < l0_1.length) = true := decide_eq_true (by omega)
   obtain rfl := Option.some.inj h
   go_enter Try.func14, Try.ntmps14
   go_wp2_with (go_at_call 56;(refine (galoisref22_Degree.calls a0_0 0 _ E1.out).mono ?_);rintro e w' ⟨rfl, nd, rfl⟩;(try first | exact ⟨rfl, _, World.drewN_drewN _ _ _⟩ | exact ⟨rfl, _, Eq.trans (World.drewN_drewN _ _ _) (congrArg (World.drewN _) (Nat.add_assoc _ _ _))⟩))
   go_ret
   exact ⟨rfl, (bel HB.out)⟩
  ·rw [if_neg c2] at h
   have d2 : decide (32 < (l0_1.length : Int)) = false := decide_eq_false c2
   have d3 : decide (32 < l0_1.length) = false := decide_eq_false (by omega)
   have H' := Aside0.mk h
   clear h
   go_enter Try.func14, Try.ntmps14
   go_wp2_with (go_at_call 56;(refine (galoisref22_Degree.calls a0_0 0 _ E1.out).mono ?_);rintro e w' ⟨rfl, nd, rfl⟩;(try first | exact ⟨rfl, _, World.drewN_drewN _ _ _⟩ | exact ⟨rfl, _, Eq.trans (World.drewN_drewN _ _ _) (congrArg (World.drewN _) (Nat.add_assoc _ _ _))⟩))
   go_loopg [4] k (fun kq v4 w' => ∃ x : Int, v4 = .int .i64 x ∧ Aside0 (galoisref23_Check.l0 kq x a0_0 l0_1 = some r) ∧ Aside0 (kq ≤ k) ∧ Aside0 (w'.heap[w.heap.size]? = some (.cells #[.int .i64 a0_0, .slice A0_1 l0_1.length c0_1] 24)) ∧ Aside0 (Below w.heap.size w w'))
   case atStart => exact ⟨0, rfl, H', ⟨Nat.le_refl _⟩, ⟨by simpa using X.out⟩, ⟨(bel HB.out)⟩⟩
   case round =>
    clear H' c2 d2 d3 x00 x01 y00 y01 X HB
    obtain ⟨x, rfl, HA, HK, X, HB⟩ := hrel
    cases gk with
    | zero => exact absurd HA.out (by simp [galoisref23_Check.l0])
    | succ k1 =>
     have H := HA.out
     simp only [galoisref23_Check.l0] at H
     have x00 := blk_cell X.out 0
     have x01 := blk_cell X.out 1
     have y00 := blk_frozen X.out 0
     have y01 := blk_frozen X.out 1
     by_cases c9 : x < (l0_1.length : Int)
     ·rw [if_pos c9] at H
      have d9 : decide (x < (l0_1.length : Int)) = true := decide_eq_true c9
      by_cases c10 : 0 ≤ x
      ·rw [if_pos c10] at H
       have d10 : decide (0 ≤ x) = true := decide_eq_true c10
       obtain ⟨t2, h2, H⟩ := Option.bind_eq_some_iff.1 H
       have E2 := Aside0.mk h2
       obtain ⟨ad, Ae, ce, e, hx, hl, hi⟩ := at_L1 P0.out x c10 c9
       cases e
       replace hx := (HB.out.cell (World.block_lt_of_cell? w _ hx)).trans hx
       have HR := Aside0.mk hi
       have HC := Aside0.mk hl
       clear hi hl h2
       replace c9 := eq_true c9
       replace c10 := eq_true c10
       by_cases c3 : t2 = 0
       ·subst c3
        rw [if_pos rfl] at H
        by_cases c4 : ((rd_L1 l0_1 x).length : Int) = a0_0
        ·rw [if_pos c4] at H
         have d4 : (((rd_L1 l0_1 x).length : Int) == a0_0) = true := beq_iff_eq.mpr c4
         have d5 : (((rd_L1 l0_1 x).length : Int) != a0_0) = false := bne_eq_false_iff_eq.mpr c4
         have H' := Aside0.mk H
         clear H c4
         go_wp2_with (go_at_call 33;(refine (galoisref22_Check.calls k1 Ae ce (rd_L1 l0_1 x) 0 _ ?s1 HC.out E2.out).mono ?_);(case s1 => first | exact Kd.C_below HR.out HB.out | exact Kd.C_drewN (Kd.C_below HR.out HB.out) _);rintro e w' ⟨rfl, nd, rfl⟩;(try first | exact ⟨rfl, _, World.drewN_drewN _ _ _⟩ | exact ⟨rfl, _, Eq.trans (World.drewN_drewN _ _ _) (congrArg (World.drewN _) (Nat.add_assoc _ _ _))⟩))
         first | (with_reducible show Handed _ _ _ _) | (repeat (go_quiet (fail);try go_wp2))
         go_roundg k1
         case measure => have := HK.out;omega
         case rel => exact ⟨_, rfl, H', ⟨by have := HK.out;omega⟩, ⟨by simpa using X.out⟩, ⟨(bel HB.out)⟩⟩
        ·rw [if_neg c4] at H
         have d4 : (((rd_L1 l0_1 x).length : Int) == a0_0) = false := beq_eq_false_iff_ne.mpr c4
         have d5 : (((rd_L1 l0_1 x).length : Int) != a0_0) = true := bne_iff_ne.mpr c4
         obtain rfl := Option.some.inj H
         go_wp2_with (go_at_call 33;(refine (galoisref22_Check.calls k1 Ae ce (rd_L1 l0_1 x) 0 _ ?s1 HC.out E2.out).mono ?_);(case s1 => first | exact Kd.C_below HR.out HB.out | exact Kd.C_drewN (Kd.C_below HR.out HB.out) _);rintro e w' ⟨rfl, nd, rfl⟩;(try first | exact ⟨rfl, _, World.drewN_drewN _ _ _⟩ | exact ⟨rfl, _, Eq.trans (World.drewN_drewN _ _ _) (congrArg (World.drewN _) (Nat.add_assoc _ _ _))⟩))
         first | (with_reducible show Handed _ _ _ _) | (repeat (go_quiet (fail);try go_wp2))
         go_ret
         exact ⟨rfl, (bel HB.out)⟩
       ·rw [if_neg c3] at H
        obtain rfl := Option.some.inj H
        have d4 : (t2 == 0) = false := beq_eq_false_iff_ne.mpr c3
        have d5 : (t2 != 0) = true := bne_iff_ne.mpr c3
        go_wp2_with (go_at_call 33;(refine (galoisref22_Check.calls k1 Ae ce (rd_L1 l0_1 x) t2 _ ?s1 HC.out E2.out).mono ?_);(case s1 => first | exact Kd.C_below HR.out HB.out | exact Kd.C_drewN (Kd.C_below HR.out HB.out) _);rintro e w' ⟨rfl, nd, rfl⟩;(try first | exact ⟨rfl, _, World.drewN_drewN _ _ _⟩ | exact ⟨rfl, _, Eq.trans (World.drewN_drewN _ _ _) (congrArg (World.drewN _) (Nat.add_assoc _ _ _))⟩))
        go_ret
        exact ⟨rfl, (bel HB.out)⟩
      ·rw [if_neg c10] at H
       exact absurd H (by simp)
     ·rw [if_neg c9] at H
      have d9 : decide (x < (l0_1.length : Int)) = false := decide_eq_false c9
      obtain rfl := Option.some.inj H
      go_wp2
      go_ret
      exact ⟨rfl, (bel HB.out)⟩
 ·rw [if_neg c1] at h
  have d2 : (t1 == 0) = false := beq_eq_false_iff_ne.mpr c1
  have d3 : (t1 != 0) = true := bne_iff_ne.mpr c1
  obtain rfl := Option.some.inj h
  go_enter Try.func14, Try.ntmps14
  go_wp2_with (go_at_call 56;(refine (galoisref22_Degree.calls a0_0 t1 _ E1.out).mono ?_);rintro e w' ⟨rfl, nd, rfl⟩;(try first | exact ⟨rfl, _, World.drewN_drewN _ _ _⟩ | exact ⟨rfl, _, Eq.trans (World.drewN_drewN _ _ _) (congrArg (World.drewN _) (Nat.add_assoc _ _ _))⟩))
  go_ret
  exact ⟨rfl, (bel HB.out)⟩
def galoisref23_Two.f (k : Nat) (a0_0 : Int) (l0_1 : List (List Int)) (a1_0 : Int) (l1_1 : List (List Int)) : Option (Int) := (galoisref23_Check.f k a0_0 l0_1).bind fun t148 => (if t148 = 0 then ((galoisref23_Check.f k a1_0 l1_1).bind fun t149 => (if t149 = 0 then (if a0_0 = a1_0 then (some 0) else (some 2)) else (some t149))) else (some t148))
set_option maxHeartbeats 8000000 in
set_option maxRecDepth 100000 in
theorem galoisref23_Two.calls (k : Nat) (a0_0 : Int) (A0_1 : Option Addr) (c0_1 : Nat) (l0_1 : List (List Int)) (a1_0 : Int) (A1_1 : Option Addr) (c1_1 : Nat) (l1_1 : List (List Int)) (r : Int) (w : World) (hr0_1 : Kd.C (Kd.slice 3 (Kd.int .i64)) w A0_1 l0_1.length l0_1) (hc0_1 : l0_1.length ≤ c0_1) (hr1_1 : Kd.C (Kd.slice 3 (Kd.int .i64)) w A1_1 l1_1.length l1_1) (hc1_1 : l1_1.length ≤ c1_1) (h : galoisref23_Two.f k a0_0 l0_1 a1_0 l1_1 = some r) :
  Calls Try.prog 24 #[.agg #[.int .i64 a0_0, .slice A0_1 l0_1.length c0_1], .agg #[.int .i64 a1_0, .slice A1_1 l1_1.length c1_1]] w fun e w' => e = .returned (.int .i64 r) ∧ Below w.heap.size w w' := by
 have hu := Try.underlying24
 have P0 := Aside0.mk hr0_1
 have L0 := Aside0.mk hc0_1
 have P1 := Aside0.mk hr1_1
 have L1 := Aside0.mk hc1_1
 unfold galoisref23_Two.f at h
 obtain ⟨t1, h1, h⟩ := Option.bind_eq_some_iff.1 h
 have E1 := Aside0.mk h1
 have X := Aside0.mk (show ((w.alloc (.cells #[.int .i64 a0_0, .slice A0_1 l0_1.length c0_1] 24)).alloc (.cells #[.int .i64 a1_0, .slice A1_1 l1_1.length c1_1] 24)).heap[w.heap.size]? = some (.cells #[.int .i64 a0_0, .slice A0_1 l0_1.length c0_1] 24) ∧ ((w.alloc (.cells #[.int .i64 a0_0, .slice A0_1 l0_1.length c0_1] 24)).alloc (.cells #[.int .i64 a1_0, .slice A1_1 l1_1.length c1_1] 24)).heap[w.heap.size + 1]? = some (.cells #[.int .i64 a1_0, .slice A1_1 l1_1.length c1_1] 24) from by
  have h1 := blk_new w (.cells #[.int .i64 a0_0, .slice A0_1 l0_1.length c0_1] 24)
  have h2 := blk_new (w.alloc (.cells #[.int .i64 a0_0, .slice A0_1 l0_1.length c0_1] 24)) (.cells #[.int .i64 a1_0, .slice A1_1 l1_1.length c1_1] 24)
  rw [show (w.alloc (.cells #[.int .i64 a0_0, .slice A0_1 l0_1.length c0_1] 24)).heap.size = w.heap.size + 1 by simp] at h2
  exact ⟨((below_alloc (Below.refl _ _) _).block _ (blk_lt h1)).trans h1, h2⟩)
 have B := Aside0.mk (show Below w.heap.size w ((w.alloc (.cells #[.int .i64 a0_0, .slice A0_1 l0_1.length c0_1] 24)).alloc (.cells #[.int .i64 a1_0, .slice A1_1 l1_1.length c1_1] 24)) from below_alloc (below_alloc (Below.refl _ _) _) _)
 clear hr0_1 hc0_1 hr1_1 hc1_1 h1
 go_enter Try.func24, Try.ntmps24
 by_cases c1 : t1 = 0
 ·subst c1
  rw [if_pos rfl] at h
  obtain ⟨t2, h2, h⟩ := Option.bind_eq_some_iff.1 h
  have E2 := Aside0.mk h2
  clear h2
  by_cases c2 : t2 = 0
  ·subst c2
   rw [if_pos rfl] at h
   by_cases c3 : a0_0 = a1_0
   ·rw [if_pos c3] at h
    obtain rfl := Option.some.inj h
    have n3 : (a0_0 == a1_0) = true := beq_iff_eq.mpr c3
    have m3 : (a0_0 != a1_0) = false := (by simp [c3])
    clear h c3
    go_wp2_with (first
     | (go_at_call 14;(refine (galoisref23_Check.calls k a1_0 A1_1 c1_1 l1_1 0 _ (Kd.C_below P1.out (below_step B1.out bel0)) L1.out E2.out).mono ?_);rintro e2 w2 ⟨rfl, hb⟩;have hq := below_step (w := w1) bel0 hb;have B2 := Aside0.mk (below_step B1.out hq);have X2 := Aside0.mk (And.intro ((hq.block _ (blk_lt X1.out.1)).trans X1.out.1) ((hq.block _ (blk_lt X1.out.2)).trans X1.out.2));have x20 := blk_cell X2.out.1 0;have x21 := blk_cell X2.out.1 1;have y20 := blk_cell X2.out.2 0;have y21 := blk_cell X2.out.2 1;have z2 := blk_lt X2.out.1;have v2 := blk_lt X2.out.2;clear hb hq)
     | (go_at_call 14;(refine (galoisref23_Check.calls k a0_0 A0_1 c0_1 l0_1 0 _ (Kd.C_below P0.out (below_step B.out bel0)) L0.out E1.out).mono ?_);rintro e1 w1 ⟨rfl, hb⟩;have hq := below_step (w := ((w.alloc (.cells #[.int .i64 a0_0, .slice A0_1 l0_1.length c0_1] 24)).alloc (.cells #[.int .i64 a1_0, .slice A1_1 l1_1.length c1_1] 24))) bel0 hb;have B1 := Aside0.mk (below_step B.out hq);have X1 := Aside0.mk (And.intro ((hq.block _ (blk_lt X.out.1)).trans X.out.1) ((hq.block _ (blk_lt X.out.2)).trans X.out.2));have x10 := blk_cell X1.out.1 0;have x11 := blk_cell X1.out.1 1;have y10 := blk_cell X1.out.2 0;have y11 := blk_cell X1.out.2 1;have z1 := blk_lt X1.out.1;have v1 := blk_lt X1.out.2;clear hb hq))
    go_ret
    exact ⟨rfl, B2.out⟩
   ·rw [if_neg c3] at h
    obtain rfl := Option.some.inj h
    have n3 : (a0_0 == a1_0) = false := beq_eq_false_iff_ne.mpr c3
    have m3 : (a0_0 != a1_0) = true := bne_iff_ne.mpr c3
    clear h c3
    go_wp2_with (first
     | (go_at_call 14;(refine (galoisref23_Check.calls k a1_0 A1_1 c1_1 l1_1 0 _ (Kd.C_below P1.out (below_step B1.out bel0)) L1.out E2.out).mono ?_);rintro e2 w2 ⟨rfl, hb⟩;have hq := below_step (w := w1) bel0 hb;have B2 := Aside0.mk (below_step B1.out hq);have X2 := Aside0.mk (And.intro ((hq.block _ (blk_lt X1.out.1)).trans X1.out.1) ((hq.block _ (blk_lt X1.out.2)).trans X1.out.2));have x20 := blk_cell X2.out.1 0;have x21 := blk_cell X2.out.1 1;have y20 := blk_cell X2.out.2 0;have y21 := blk_cell X2.out.2 1;have z2 := blk_lt X2.out.1;have v2 := blk_lt X2.out.2;clear hb hq)
     | (go_at_call 14;(refine (galoisref23_Check.calls k a0_0 A0_1 c0_1 l0_1 0 _ (Kd.C_below P0.out (below_step B.out bel0)) L0.out E1.out).mono ?_);rintro e1 w1 ⟨rfl, hb⟩;have hq := below_step (w := ((w.alloc (.cells #[.int .i64 a0_0, .slice A0_1 l0_1.length c0_1] 24)).alloc (.cells #[.int .i64 a1_0, .slice A1_1 l1_1.length c1_1] 24))) bel0 hb;have B1 := Aside0.mk (below_step B.out hq);have X1 := Aside0.mk (And.intro ((hq.block _ (blk_lt X.out.1)).trans X.out.1) ((hq.block _ (blk_lt X.out.2)).trans X.out.2));have x10 := blk_cell X1.out.1 0;have x11 := blk_cell X1.out.1 1;have y10 := blk_cell X1.out.2 0;have y11 := blk_cell X1.out.2 1;have z1 := blk_lt X1.out.1;have v1 := blk_lt X1.out.2;clear hb hq))
    go_ret
    exact ⟨rfl, B2.out⟩
  ·rw [if_neg c2] at h
   obtain rfl := Option.some.inj h
   have n2 : (t2 == 0) = false := beq_eq_false_iff_ne.mpr c2
   have m2 : (t2 != 0) = true := bne_iff_ne.mpr c2
   clear h c2
   go_wp2_with (first
    | (go_at_call 14;(refine (galoisref23_Check.calls k a1_0 A1_1 c1_1 l1_1 t2 _ (Kd.C_below P1.out (below_step B1.out bel0)) L1.out E2.out).mono ?_);rintro e2 w2 ⟨rfl, hb⟩;have hq := below_step (w := w1) bel0 hb;have B2 := Aside0.mk (below_step B1.out hq);have X2 := Aside0.mk (And.intro ((hq.block _ (blk_lt X1.out.1)).trans X1.out.1) ((hq.block _ (blk_lt X1.out.2)).trans X1.out.2));have x20 := blk_cell X2.out.1 0;have x21 := blk_cell X2.out.1 1;have y20 := blk_cell X2.out.2 0;have y21 := blk_cell X2.out.2 1;have z2 := blk_lt X2.out.1;have v2 := blk_lt X2.out.2;clear hb hq)
    | (go_at_call 14;(refine (galoisref23_Check.calls k a0_0 A0_1 c0_1 l0_1 0 _ (Kd.C_below P0.out (below_step B.out bel0)) L0.out E1.out).mono ?_);rintro e1 w1 ⟨rfl, hb⟩;have hq := below_step (w := ((w.alloc (.cells #[.int .i64 a0_0, .slice A0_1 l0_1.length c0_1] 24)).alloc (.cells #[.int .i64 a1_0, .slice A1_1 l1_1.length c1_1] 24))) bel0 hb;have B1 := Aside0.mk (below_step B.out hq);have X1 := Aside0.mk (And.intro ((hq.block _ (blk_lt X.out.1)).trans X.out.1) ((hq.block _ (blk_lt X.out.2)).trans X.out.2));have x10 := blk_cell X1.out.1 0;have x11 := blk_cell X1.out.1 1;have y10 := blk_cell X1.out.2 0;have y11 := blk_cell X1.out.2 1;have z1 := blk_lt X1.out.1;have v1 := blk_lt X1.out.2;clear hb hq))
   go_ret
   exact ⟨rfl, B2.out⟩
 ·rw [if_neg c1] at h
  obtain rfl := Option.some.inj h
  have n1 : (t1 == 0) = false := beq_eq_false_iff_ne.mpr c1
  have m1 : (t1 != 0) = true := bne_iff_ne.mpr c1
  clear h c1
  go_wp2_with (go_at_call 14;(refine (galoisref23_Check.calls k a0_0 A0_1 c0_1 l0_1 t1 _ (Kd.C_below P0.out (below_step B.out bel0)) L0.out E1.out).mono ?_);rintro e1 w1 ⟨rfl, hb⟩;have hq := below_step (w := ((w.alloc (.cells #[.int .i64 a0_0, .slice A0_1 l0_1.length c0_1] 24)).alloc (.cells #[.int .i64 a1_0, .slice A1_1 l1_1.length c1_1] 24))) bel0 hb;have B1 := Aside0.mk (below_step B.out hq);have X1 := Aside0.mk (And.intro ((hq.block _ (blk_lt X.out.1)).trans X.out.1) ((hq.block _ (blk_lt X.out.2)).trans X.out.2));have x10 := blk_cell X1.out.1 0;have x11 := blk_cell X1.out.1 1;have y10 := blk_cell X1.out.2 0;have y11 := blk_cell X1.out.2 1;have z1 := blk_lt X1.out.1;have v1 := blk_lt X1.out.2;clear hb hq)
  go_ret
  exact ⟨rfl, B1.out⟩
def galoisref23_Few.l0 : Nat → Int → Int → List (List Int) → Option (Bool)
 | 0, _, _, _ => none
 | k + 1, x3, x154000, x154001 => if x3 < (x154001.length : Int) then (if 0 ≤ x3 then (if ((rd_L1 x154001 x3).length : Int) > 40 then (some false) else (galoisref23_Few.l0 k (wrap64 (x3 + 1)) x154000 x154001)) else (none)) else (some true)
def galoisref23_Few.f (k : Nat) (a0_0 : Int) (l0_1 : List (List Int)) : Option (Bool) := if (l0_1.length : Int) > 40 then (some false) else (galoisref23_Few.l0 k 0 a0_0 l0_1)
set_option maxHeartbeats 8000000 in
set_option maxRecDepth 100000 in
theorem galoisref23_Few.calls (k : Nat) (a0_0 : Int) (A0_1 : Option Addr) (c0_1 : Nat) (l0_1 : List (List Int)) (r : Bool) (w : World) (hr0_1 : Kd.C (Kd.slice 3 (Kd.int .i64)) w A0_1 l0_1.length l0_1) (hc0_1 : l0_1.length ≤ c0_1) (h : galoisref23_Few.f k a0_0 l0_1 = some r) :
  Calls Try.prog 47 #[.agg #[.int .i64 a0_0, .slice A0_1 l0_1.length c0_1]] w fun e w' => e = .returned (.bool r) ∧ Below w.heap.size w w' := by
 have hu24 := Try.underlying24
 have HR0_1 := Aside0.mk hr0_1
 have HC0_1 := Aside0.mk hc0_1
 clear hr0_1 hc0_1
 have HB := Aside0.mk (Below.refl w.heap.size w)
 have H : (if (l0_1.length : Int) > 40 then (some false) else (galoisref23_Few.l0 k 0 a0_0 l0_1)) = some r := h
 clear h
 by_cases c2 : (l0_1.length : Int) > 40
 ·rw [if_pos c2] at H
  have c2b0 : decide (40 < (l0_1.length : Int)) = true := decide_eq_true c2
  have c2b1 : decide (40 < l0_1.length) = true := decide_eq_true (by omega)
  clear c2
  obtain rfl := Option.some.inj H
  go_enter Try.func47, Try.ntmps47
  go_wp2_with (first|((with_reducible refine gate_dst (N := 1) rfl ?_);refine box_event ?hg (N := 1) ?hd (cs := #[.int .i64 a0_0, .slice A0_1 l0_1.length c0_1]) (t := 24) ?hr ?_;(case hd => rfl);(case hg => rfl);(case hr => first | (go_simp;done) | (go_simp;rfl));intro gb153 hg w3 hbox hb;have n0_ := Aside0.mk (below_step (bel HB.out) hb);have n1_ := Aside0.mk (hbox);have n2_ := Aside0.mk ((by rw [hg];exact (below_size (bel HB.out)) : w.heap.size ≤ gb153));have n3_ := Aside0.mk ((by rw [hg];exact (below_size (bel HB.out)) : w.heap.size ≤ gb153));clear HB;have HB := n0_;have BK153 := n1_;have GW153 := n2_;have GE153 := n3_;clear n0_ n1_ n2_ n3_;clear hb hbox hg;have hcz4_0 : w3.cell? ⟨gb153, 0, none⟩ = some (.int .i64 a0_0) := (blk_cell BK153.out 0).trans rfl;have hcz4_1 : w3.cell? ⟨gb153, 1, none⟩ = some (.slice A0_1 l0_1.length c0_1) := (blk_cell BK153.out 1).trans rfl;have hfz4_0 := blk_frozen BK153.out 0;have hfz4_1 := blk_frozen BK153.out 1))
  go_ret
  exact ⟨by first | rfl | (simp [errW_none, errW_some] <;> rfl) | (simp [*, errW_none, errW_some] <;> rfl), bel HB.out⟩
 ·rw [if_neg c2] at H
  have c2b0 : decide (40 < (l0_1.length : Int)) = false := decide_eq_false c2
  have c2b1 : decide (40 < l0_1.length) = false := decide_eq_false (by omega)
  clear c2
  have H' := Aside0.mk H
  clear H
  go_enter Try.func47, Try.ntmps47
  go_wp2_with (first|((with_reducible refine gate_dst (N := 1) rfl ?_);refine box_event ?hg (N := 1) ?hd (cs := #[.int .i64 a0_0, .slice A0_1 l0_1.length c0_1]) (t := 24) ?hr ?_;(case hd => rfl);(case hg => rfl);(case hr => first | (go_simp;done) | (go_simp;rfl));intro gb153 hg w5 hbox hb;have n0_ := Aside0.mk (below_step (bel HB.out) hb);have n1_ := Aside0.mk (hbox);have n2_ := Aside0.mk ((by rw [hg];exact (below_size (bel HB.out)) : w.heap.size ≤ gb153));have n3_ := Aside0.mk ((by rw [hg];exact (below_size (bel HB.out)) : w.heap.size ≤ gb153));clear HB;have HB := n0_;have BK153 := n1_;have GW153 := n2_;have GE153 := n3_;clear n0_ n1_ n2_ n3_;clear hb hbox hg;have hcz6_0 : w5.cell? ⟨gb153, 0, none⟩ = some (.int .i64 a0_0) := (blk_cell BK153.out 0).trans rfl;have hcz6_1 : w5.cell? ⟨gb153, 1, none⟩ = some (.slice A0_1 l0_1.length c0_1) := (blk_cell BK153.out 1).trans rfl;have hfz6_0 := blk_frozen BK153.out 0;have hfz6_1 := blk_frozen BK153.out 1))
  go_loopg [3] k (fun kq v3 w' => ∃ (x3_1 : Int), v3 = .int .i64 x3_1 ∧ Aside0 (galoisref23_Few.l0 kq x3_1 a0_0 l0_1 = some r) ∧ Aside0 (kq ≤ k) ∧ Aside0 (w'.heap[gb153]? = some (.cells #[.int .i64 a0_0, (.slice A0_1 l0_1.length c0_1)] 24 (0, 0))) ∧ Aside0 (Below w.heap.size w w'))
  case atStart => exact ⟨(0), (by first | rfl | (simp;done) | (simp [*];done)), H', ⟨Nat.le_refl _⟩, ⟨blkst BK153.out⟩, ⟨bel HB.out⟩⟩
  case round =>
   clear H'
   try clear c2
   try clear c2b0
   try clear c2b1
   try clear p2
   try clear c4
   try clear hcz4_0
   try clear hcz4_1
   try clear hcz6_0
   try clear hcz6_1
   try clear hfz4_0
   try clear hfz4_1
   try clear hfz6_0
   try clear hfz6_1
   obtain ⟨x3_1, rfl, HA, HK1, BK153, HB⟩ := hrel
   cases gk with
   | zero => exact absurd HA.out (by simp [galoisref23_Few.l0])
   | succ k1 =>
    have H := HA.out
    clear HA
    simp only [galoisref23_Few.l0] at H
    by_cases c7 : x3_1 < (l0_1.length : Int)
    ·rw [if_pos c7] at H
     have c7b0 : decide (x3_1 < (l0_1.length : Int)) = true := decide_eq_true c7
     clear c7
     by_cases c8 : 0 ≤ x3_1
     ·rw [if_pos c8] at H
      have c8b0 : decide (0 ≤ x3_1) = true := decide_eq_true c8
      clear c8
      by_cases c9 : ((rd_L1 l0_1 x3_1).length : Int) > 40
      ·rw [if_pos c9] at H
       have c9b0 : decide (40 < ((rd_L1 l0_1 x3_1).length : Int)) = true := decide_eq_true c9
       have c9b1 : decide (40 < (rd_L1 l0_1 x3_1).length) = true := decide_eq_true (by omega)
       clear c9
       obtain rfl := Option.some.inj H
       have hcz10_0 : wr.cell? ⟨gb153, 0, none⟩ = some (.int .i64 a0_0) := (blk_cell BK153.out 0).trans rfl
       have hcz10_1 : wr.cell? ⟨gb153, 1, none⟩ = some (.slice A0_1 l0_1.length c0_1) := (blk_cell BK153.out 1).trans rfl
       have hfz10_0 := blk_frozen BK153.out 0
       have hfz10_1 := blk_frozen BK153.out 1
       have p154 : 0 ≤ (x3_1 : Int) := of_decide_eq_true (by assumption)
       have q154 : x3_1 < (l0_1.length : Int) := of_decide_eq_true (by assumption)
       obtain ⟨ad154, A154_0, c154_0, e154, hx154_0, hl154_0, hi154_0⟩ := at_L1 HR0_1.out x3_1 p154 q154
       cases e154
       try (replace hx154_0 := (HB.out.cell (World.block_lt_of_cell? w _ hx154_0)).trans hx154_0)
       have HR154_0 := Aside0.mk hi154_0
       have HC154_0 := Aside0.mk hl154_0
       clear hi154_0 hl154_0
       replace p154 := eq_true p154
       replace q154 := eq_true q154
       go_wp2
       go_ret
       exact ⟨by first | rfl | (simp [errW_none, errW_some] <;> rfl) | (simp [*, errW_none, errW_some] <;> rfl), bel HB.out⟩
      ·rw [if_neg c9] at H
       have c9b0 : decide (40 < ((rd_L1 l0_1 x3_1).length : Int)) = false := decide_eq_false c9
       have c9b1 : decide (40 < (rd_L1 l0_1 x3_1).length) = false := decide_eq_false (by omega)
       clear c9
       have H' := Aside0.mk H
       clear H
       have hcz11_0 : wr.cell? ⟨gb153, 0, none⟩ = some (.int .i64 a0_0) := (blk_cell BK153.out 0).trans rfl
       have hcz11_1 : wr.cell? ⟨gb153, 1, none⟩ = some (.slice A0_1 l0_1.length c0_1) := (blk_cell BK153.out 1).trans rfl
       have hfz11_0 := blk_frozen BK153.out 0
       have hfz11_1 := blk_frozen BK153.out 1
       have p154 : 0 ≤ (x3_1 : Int) := of_decide_eq_true (by assumption)
       have q154 : x3_1 < (l0_1.length : Int) := of_decide_eq_true (by assumption)
       obtain ⟨ad154, A154_0, c154_0, e154, hx154_0, hl154_0, hi154_0⟩ := at_L1 HR0_1.out x3_1 p154 q154
       cases e154
       try (replace hx154_0 := (HB.out.cell (World.block_lt_of_cell? w _ hx154_0)).trans hx154_0)
       have HR154_0 := Aside0.mk hi154_0
       have HC154_0 := Aside0.mk hl154_0
       clear hi154_0 hl154_0
       replace p154 := eq_true p154
       replace q154 := eq_true q154
       go_wp2
       go_roundg k1
       case measure => have := HK1.out;omega
       case rel => exact ⟨(wrap64 (x3_1 + 1)), (by first | rfl | (simp;done) | (simp [*];done)), H', ⟨by have := HK1.out;omega⟩, ⟨blkst BK153.out⟩, ⟨bel HB.out⟩⟩
     ·rw [if_neg c8] at H
      exact absurd H (by simp)
    ·rw [if_neg c7] at H
     have c7b0 : decide (x3_1 < (l0_1.length : Int)) = false := decide_eq_false c7
     clear c7
     obtain rfl := Option.some.inj H
     have hcz12_0 : wr.cell? ⟨gb153, 0, none⟩ = some (.int .i64 a0_0) := (blk_cell BK153.out 0).trans rfl
     have hcz12_1 : wr.cell? ⟨gb153, 1, none⟩ = some (.slice A0_1 l0_1.length c0_1) := (blk_cell BK153.out 1).trans rfl
     have hfz12_0 := blk_frozen BK153.out 0
     have hfz12_1 := blk_frozen BK153.out 1
     go_wp2
     go_ret
     exact ⟨by first | rfl | (simp [errW_none, errW_some] <;> rfl) | (simp [*, errW_none, errW_some] <;> rfl), bel HB.out⟩
def galoisref23_Place.l0 : Nat → List (List Int) → List Int → Int → Int → Option (Int)
 | 0, _, _, _, _ => none
 | k + 1, x0, x1, x5, x6 => if x5 < x6 then (if 0 ≤ (wrap64 (Int.tdiv (wrap64 (x5 + x6)) 2)) then (if (wrap64 (Int.tdiv (wrap64 (x5 + x6)) 2)) < (x0.length : Int) then ((galoisref22_Compare.f k (rd_L1 x0 (wrap64 (Int.tdiv (wrap64 (x5 + x6)) 2))) x1).bind fun t156 => (if t156 < 0 then (galoisref23_Place.l0 k x0 x1 (wrap64 ((wrap64 (Int.tdiv (wrap64 (x5 + x6)) 2)) + 1)) x6) else (galoisref23_Place.l0 k x0 x1 x5 (wrap64 (Int.tdiv (wrap64 (x5 + x6)) 2))))) else (none)) else (none)) else (some x5)
def galoisref23_Place.f (k : Nat) (l0 : List (List Int)) (l1 : List Int) : Option (Int) := galoisref23_Place.l0 k l0 l1 0 (l0.length : Int)
theorem galoisref23_Place.mono_l : ∀ k, (∀ y0 y1 y2 y3, LeO (galoisref23_Place.l0 k y0 y1 y2 y3) (galoisref23_Place.l0 (k + 1) y0 y1 y2 y3))
 | 0 => fun _ _ _ _ r h => by simp [galoisref23_Place.l0] at h
 | k + 1 => by
  have ih0 := galoisref23_Place.mono_l k
  ·intro y0 y1 y2 y3
   unfold galoisref23_Place.l0
   repeat' first
   | (with_reducible exact ih0 _ _ _ _)
   | (with_reducible exact galoisref22_Compare.mono _ _ _)
   | (with_reducible exact LeO.refl _)
   | (with_reducible exact LeO.none _)
   | (with_reducible refine LeO.ite ?_ ?_)
   | (with_reducible refine LeO.bind ?_ (fun _ => ?_))
   | exact ih0 _ _ _ _
   | exact galoisref22_Compare.mono _ _ _
   | exact LeO.none _
   | refine LeO.ite ?_ ?_
   | refine LeO.bind ?_ (fun _ => ?_)
theorem galoisref23_Place.mono : ∀ a0 a1 k, LeO (galoisref23_Place.f k a0 a1) (galoisref23_Place.f (k + 1) a0 a1) := by
 intro a0 a1 k
 have ih0 := galoisref23_Place.mono_l k
 unfold galoisref23_Place.f
 repeat' first
   | (with_reducible exact ih0 _ _ _ _)
   | (with_reducible exact galoisref22_Compare.mono _ _ _)
   | (with_reducible exact LeO.refl _)
   | (with_reducible exact LeO.none _)
   | (with_reducible refine LeO.ite ?_ ?_)
   | (with_reducible refine LeO.bind ?_ (fun _ => ?_))
   | exact ih0 _ _ _ _
   | exact galoisref22_Compare.mono _ _ _
   | exact LeO.none _
   | refine LeO.ite ?_ ?_
   | refine LeO.bind ?_ (fun _ => ?_)
set_option maxHeartbeats 8000000 in
set_option maxRecDepth 100000 in
theorem galoisref23_Place.calls (k : Nat) (A0 : Option Addr) (c0 : Nat) (l0 : List (List Int)) (A1 : Option Addr) (c1 : Nat) (l1 : List Int) (r : Int) (w : World) (hr0 : Kd.C (Kd.slice 3 (Kd.int .i64)) w A0 l0.length l0) (hc0 : l0.length ≤ c0) (hr1 : Kd.C (Kd.int .i64) w A1 l1.length l1) (hc1 : l1.length ≤ c1) (h : galoisref23_Place.f k l0 l1 = some r) :
  Calls Try.prog 58 #[.slice A0 l0.length c0, .slice A1 l1.length c1] w fun e w' => e = .returned (.int .i64 r) ∧ Drawn0 w w' := by
 have HR0 := Aside0.mk hr0
 have HC0 := Aside0.mk hc0
 clear hr0 hc0
 have HR1 := Aside0.mk hr1
 have HC1 := Aside0.mk hc1
 clear hr1 hc1
 have H : (galoisref23_Place.l0 k l0 l1 0 (l0.length : Int)) = some r := h
 clear h
 have H' := Aside0.mk H
 clear H
 go_enter Try.func58, Try.ntmps58
 go_wp2
 go_loopg [5, 6] k (fun kq v5 v6 w' => ∃ (x5_1 : Int) (x6_1 : Int), v5 = .int .i64 x5_1 ∧ v6 = .int .i64 x6_1 ∧ Aside0 (galoisref23_Place.l0 kq l0 l1 x5_1 x6_1 = some r) ∧ Aside0 (kq ≤ k) ∧ Drawn0 w w')
 case atStart => exact ⟨(0), ((l0.length : Int)), (by first | rfl | (simp;done) | (simp [*];done)), (by first | rfl | (simp;done) | (simp [*];done)), H', ⟨Nat.le_refl _⟩, by repeat (first|exact Drawn0.refl _ | apply Drawn0.step)⟩
 case round =>
  clear H'
  try clear c1
  try clear p2
  obtain ⟨x5_1, x6_1, rfl, rfl, HA, HK1, ⟨m1, rfl⟩⟩ := hrel
  cases gk with
  | zero => exact absurd HA.out (by simp [galoisref23_Place.l0])
  | succ k1 =>
   have H := HA.out
   clear HA
   simp only [galoisref23_Place.l0] at H
   by_cases c3 : x5_1 < x6_1
   ·rw [if_pos c3] at H
    have c3b0 : decide (x5_1 < x6_1) = true := decide_eq_true c3
    clear c3
    obtain ⟨ji4, hji4⟩ : ∃ j_ : Int, (wrap64 (Int.tdiv (wrap64 (x5_1 + x6_1)) 2)) = j_ := ⟨_, rfl⟩
    replace H : (if 0 ≤ (ji4) then (if (ji4) < (l0.length : Int) then ((galoisref22_Compare.f k1 (rd_L1 l0 (ji4)) l1).bind fun t156 => (if t156 < 0 then (galoisref23_Place.l0 k1 l0 l1 (wrap64 ((ji4) + 1)) x6_1) else (galoisref23_Place.l0 k1 l0 l1 x5_1 ji4))) else (none)) else (none)) = some r := by first | (rw [hji4] at H;exact H) | (simp only [hji4] at H ⊢;exact H)
    have hji4w : (IntKind.i64.wrap (Int.tdiv (wrap64 (x5_1 + x6_1)) 2)) = ji4 := (i64_w _).trans hji4
    by_cases c5 : 0 ≤ (ji4)
    ·rw [if_pos c5] at H
     have c5b0 : decide (0 ≤ (ji4)) = true := decide_eq_true c5
     clear c5
     by_cases c6 : (ji4) < (l0.length : Int)
     ·rw [if_pos c6] at H
      have c6b0 : decide ((ji4) < (l0.length : Int)) = true := decide_eq_true c6
      clear c6
      replace H := Option.bind_eq_some_iff.mp H
      obtain ⟨t156, A70, H⟩ := H
      replace H : (if t156 < 0 then (galoisref23_Place.l0 k1 l0 l1 (wrap64 ((ji4) + 1)) x6_1) else (galoisref23_Place.l0 k1 l0 l1 x5_1 ji4)) = some r := H
      have A7 := Aside0.mk A70
      clear A70
      by_cases c8 : t156 < 0
      ·rw [if_pos c8] at H
       have c8b0 : decide (t156 < 0) = true := decide_eq_true c8
       clear c8
       have H' := Aside0.mk H
       clear H
       have p155 : 0 ≤ ((ji4) : Int) := of_decide_eq_true (by assumption)
       have q155 : (ji4) < (l0.length : Int) := of_decide_eq_true (by assumption)
       obtain ⟨ad155, A155_0, c155_0, e155, hx155_0, hl155_0, hi155_0⟩ := at_L1 HR0.out (ji4) p155 q155
       cases e155
       have HR155_0 := Aside0.mk hi155_0
       have HC155_0 := Aside0.mk hl155_0
       clear hi155_0 hl155_0
       replace p155 := eq_true p155
       replace q155 := eq_true q155
       go_wp2_with (first|((with_reducible refine gate_callee (f := 79) rfl ?_);refine goesL_ (some 22) rfl rfl Try.func79 (by kernel_rfl) rfl #[.slice A155_0 (rd_L1 l0 (ji4)).length c155_0, .slice A1 l1.length c1] rfl (by (try simp only [List.map_toArray, List.map_cons, List.map_nil]);first | done | (simp only [hji4];rfl) | rfl | (simp only [List.length_drop, List.length_take];rfl)) ?_;(with_reducible refine (galoisref22_Compare.calls k1 _ _ (rd_L1 l0 (ji4)) _ _ l1 t156 _ ?side1 ?side2 ?side3 ?side4 A7.out).mono ?_);(case side1 => exact Cst HR155_0.out);(case side2 => exact HC155_0.out);(case side3 => exact Cst HR1.out);(case side4 => exact HC1.out);rintro e w' ⟨rfl, ⟨nd, rfl⟩⟩;refine ⟨_, rfl, ?_⟩))
       go_roundg k1
       case measure => have := HK1.out;((try clear hji4w);(try clear hji4);omega)
       case rel => exact ⟨(wrap64 ((ji4) + 1)), (x6_1), (by first | rfl | (simp;done) | (simp only [← hji4] <;> (first|rfl | simp)) | (simp [*];done)), (by first | rfl | (simp;done) | (simp [*];done)), H', ⟨by have := HK1.out;((try clear hji4w);(try clear hji4);omega)⟩, by repeat (first|exact Drawn0.refl _ | apply Drawn0.step)⟩
      ·rw [if_neg c8] at H
       have c8b0 : decide (t156 < 0) = false := decide_eq_false c8
       clear c8
       have H' := Aside0.mk H
       clear H
       have p155 : 0 ≤ ((ji4) : Int) := of_decide_eq_true (by assumption)
       have q155 : (ji4) < (l0.length : Int) := of_decide_eq_true (by assumption)
       obtain ⟨ad155, A155_0, c155_0, e155, hx155_0, hl155_0, hi155_0⟩ := at_L1 HR0.out (ji4) p155 q155
       cases e155
       have HR155_0 := Aside0.mk hi155_0
       have HC155_0 := Aside0.mk hl155_0
       clear hi155_0 hl155_0
       replace p155 := eq_true p155
       replace q155 := eq_true q155
       go_wp2_with (first|((with_reducible refine gate_callee (f := 79) rfl ?_);refine goesL_ (some 22) rfl rfl Try.func79 (by kernel_rfl) rfl #[.slice A155_0 (rd_L1 l0 (ji4)).length c155_0, .slice A1 l1.length c1] rfl (by (try simp only [List.map_toArray, List.map_cons, List.map_nil]);first | done | (simp only [hji4];rfl) | rfl | (simp only [List.length_drop, List.length_take];rfl)) ?_;(with_reducible refine (galoisref22_Compare.calls k1 _ _ (rd_L1 l0 (ji4)) _ _ l1 t156 _ ?side1 ?side2 ?side3 ?side4 A7.out).mono ?_);(case side1 => exact Cst HR155_0.out);(case side2 => exact HC155_0.out);(case side3 => exact Cst HR1.out);(case side4 => exact HC1.out);rintro e w' ⟨rfl, ⟨nd, rfl⟩⟩;refine ⟨_, rfl, ?_⟩))
       go_roundg k1
       case measure => have := HK1.out;((try clear hji4w);(try clear hji4);omega)
       case rel => exact ⟨(x5_1), (ji4), (by first | rfl | (simp;done) | (simp [*];done)), (by first | rfl | (simp;done) | (simp only [← hji4] <;> (first|rfl | simp)) | (simp [*];done)), H', ⟨by have := HK1.out;((try clear hji4w);(try clear hji4);omega)⟩, by repeat (first|exact Drawn0.refl _ | apply Drawn0.step)⟩
     ·rw [if_neg c6] at H
      exact absurd H (by simp)
    ·rw [if_neg c5] at H
     exact absurd H (by simp)
   ·rw [if_neg c3] at H
    have c3b0 : decide (x5_1 < x6_1) = false := decide_eq_false c3
    clear c3
    obtain rfl := Option.some.inj H
    go_wp2
    go_ret
    exact ⟨by first | rfl | (simp;done) | (simp [*];done), by repeat (first|exact Drawn0.refl _ | apply Drawn0.step)⟩
def galoisref23_Has.f (k : Nat) (l0 : List (List Int)) (l1 : List Int) : Option (Bool) := (galoisref23_Place.f k l0 l1).bind fun t157 => (if t157 < (l0.length : Int) then (if 0 ≤ t157 then ((galoisref22_Same.f k (rd_L1 l0 t157) l1).bind fun t159 => (some t159)) else (none)) else (some false))
theorem galoisref23_Has.mono : ∀ a0 a1 k, LeO (galoisref23_Has.f k a0 a1) (galoisref23_Has.f (k + 1) a0 a1) := by
 intro a0 a1 k
 unfold galoisref23_Has.f
 repeat' first
   | (with_reducible exact galoisref22_Same.mono _ _ _)
   | (with_reducible exact galoisref23_Place.mono _ _ _)
   | (with_reducible exact LeO.refl _)
   | (with_reducible exact LeO.none _)
   | (with_reducible refine LeO.ite ?_ ?_)
   | (with_reducible refine LeO.bind ?_ (fun _ => ?_))
   | exact galoisref22_Same.mono _ _ _
   | exact galoisref23_Place.mono _ _ _
   | exact LeO.none _
   | refine LeO.ite ?_ ?_
   | refine LeO.bind ?_ (fun _ => ?_)
set_option maxHeartbeats 8000000 in
set_option maxRecDepth 100000 in
theorem galoisref23_Has.calls (k : Nat) (A0 : Option Addr) (c0 : Nat) (l0 : List (List Int)) (A1 : Option Addr) (c1 : Nat) (l1 : List Int) (r : Bool) (w : World) (hr0 : Kd.C (Kd.slice 3 (Kd.int .i64)) w A0 l0.length l0) (hc0 : l0.length ≤ c0) (hr1 : Kd.C (Kd.int .i64) w A1 l1.length l1) (hc1 : l1.length ≤ c1) (h : galoisref23_Has.f k l0 l1 = some r) :
  Calls Try.prog 28 #[.slice A0 l0.length c0, .slice A1 l1.length c1] w fun e w' => e = .returned (.bool r) ∧ Drawn0 w w' := by
 have HR0 := Aside0.mk hr0
 have HC0 := Aside0.mk hc0
 clear hr0 hc0
 have HR1 := Aside0.mk hr1
 have HC1 := Aside0.mk hc1
 clear hr1 hc1
 have H : ((galoisref23_Place.f k l0 l1).bind fun t157 => (if t157 < (l0.length : Int) then (if 0 ≤ t157 then ((galoisref22_Same.f k (rd_L1 l0 t157) l1).bind fun t159 => (some t159)) else (none)) else (some false))) = some r := h
 clear h
 replace H := Option.bind_eq_some_iff.mp H
 obtain ⟨t157, A30, H⟩ := H
 replace H : (if t157 < (l0.length : Int) then (if 0 ≤ t157 then ((galoisref22_Same.f k (rd_L1 l0 t157) l1).bind fun t159 => (some t159)) else (none)) else (some false)) = some r := H
 have A3 := Aside0.mk A30
 clear A30
 by_cases c4 : t157 < (l0.length : Int)
 ·rw [if_pos c4] at H
  have c4b0 : decide (t157 < (l0.length : Int)) = true := decide_eq_true c4
  clear c4
  by_cases c5 : 0 ≤ t157
  ·rw [if_pos c5] at H
   have c5b0 : decide (0 ≤ t157) = true := decide_eq_true c5
   clear c5
   replace H := Option.bind_eq_some_iff.mp H
   obtain ⟨t159, A60, H⟩ := H
   replace H : (some t159) = some r := H
   have A6 := Aside0.mk A60
   clear A60
   obtain rfl := Option.some.inj H
   go_enter Try.func28, Try.ntmps28
   go_wp2_with (first|((with_reducible refine gate_callee (f := 58) rfl ?_);refine goesL_ (some 8) rfl rfl Try.func58 (by kernel_rfl) rfl #[.slice A0 l0.length c0, .slice A1 l1.length c1] rfl (by (try simp only [List.map_toArray, List.map_cons, List.map_nil]);first | done | rfl | (simp only [List.length_drop, List.length_take];rfl)) ?_;(with_reducible refine (galoisref23_Place.calls k _ _ l0 _ _ l1 t157 _ ?side1 ?side2 ?side3 ?side4 A3.out).mono ?_);(case side1 => exact Cst HR0.out);(case side2 => exact HC0.out);(case side3 => exact Cst HR1.out);(case side4 => exact HC1.out);rintro e w' ⟨rfl, ⟨nd, rfl⟩⟩;refine ⟨_, rfl, ?_⟩;have p158 : 0 ≤ (t157 : Int) := of_decide_eq_true (by assumption);have q158 : t157 < (l0.length : Int) := of_decide_eq_true (by assumption);obtain ⟨ad158, A158_0, c158_0, e158, hx158_0, hl158_0, hi158_0⟩ := at_L1 HR0.out t157 p158 q158;cases e158;have HR158_0 := Aside0.mk hi158_0;have HC158_0 := Aside0.mk hl158_0;clear hi158_0 hl158_0;replace p158 := eq_true p158;replace q158 := eq_true q158) | (go_at_call 32;(with_reducible refine (galoisref22_Same.calls k _ _ (rd_L1 l0 t157) _ _ l1 t159 _ ?side1 ?side2 ?side3 ?side4 A6.out).mono ?_);(case side1 => exact Cst HR158_0.out);(case side2 => exact HC158_0.out);(case side3 => exact Cst HR1.out);(case side4 => exact HC1.out);rintro e w' ⟨rfl, ⟨nd, rfl⟩⟩))
   go_ret
   exact ⟨by first | rfl | (simp;done) | (simp [*];done), by repeat (first|exact Drawn0.refl _ | apply Drawn0.step)⟩
  ·rw [if_neg c5] at H
   exact absurd H (by simp)
 ·rw [if_neg c4] at H
  have c4b0 : decide (t157 < (l0.length : Int)) = false := decide_eq_false c4
  clear c4
  obtain rfl := Option.some.inj H
  go_enter Try.func28, Try.ntmps28
  go_wp2_with (first|((with_reducible refine gate_callee (f := 58) rfl ?_);refine goesL_ (some 8) rfl rfl Try.func58 (by kernel_rfl) rfl #[.slice A0 l0.length c0, .slice A1 l1.length c1] rfl (by (try simp only [List.map_toArray, List.map_cons, List.map_nil]);first | done | rfl | (simp only [List.length_drop, List.length_take];rfl)) ?_;(with_reducible refine (galoisref23_Place.calls k _ _ l0 _ _ l1 t157 _ ?side1 ?side2 ?side3 ?side4 A3.out).mono ?_);(case side1 => exact Cst HR0.out);(case side2 => exact HC0.out);(case side3 => exact Cst HR1.out);(case side4 => exact HC1.out);rintro e w' ⟨rfl, ⟨nd, rfl⟩⟩;refine ⟨_, rfl, ?_⟩))
  go_ret
  exact ⟨by first | rfl | (simp;done) | (simp [*];done), by repeat (first|exact Drawn0.refl _ | apply Drawn0.step)⟩
end Go.Proofs.Ytaaaljifclecnaa.PRf
