-- Printed.
import Derived.Test.YtmbldnoepjmhhaaZPermgroupFormsMg0
import Derived.Test.YtmbldnoepjmhhaaZPermgroupFormsPRfx0
import Derived.Test.YtmbldnoepjmhhaaZPermgroupFormsPRfx1
import Derived.Test.YtmbldnoepjmhhaaZPermgroupFormsPRfx2
namespace Go.Proofs.Ytmbldnoepjmhhaa.PRf
open Go.RowKit Go.Proofs.YtmbldnoepjmhhaaW.PrintWords Go.Proofs.YtmbldnoepjmhhaaW.PrintLast Go.Proofs.YtmbldnoepjmhhaaW.PrintMore Go.Proofs.Ytmbldnoepjmhhaa.PAll
attribute [local go_sem] max2_int min2_int max_two min_two max_three min_three max_four min_four
set_option linter.unusedVariables false
set_option linter.unusedSimpArgs false
def galoisref23_Check.l0 : Nat → Int → Int → List (List Int) → Option (Int)
 | 0, _, _, _ => none
 | k + 1, x4, x142000, x142001 => if x4 < (x142001.length : Int) then (if 0 ≤ x4 then ((galoisref22_Check.f k (rd_L1 x142001 x4)).bind fun t144 => (if t144 = 0 then (if ((rd_L1 x142001 x4).length : Int) = x142000 then (galoisref23_Check.l0 k (wrap64 (x4 + 1)) x142000 x142001) else (some 2)) else (some t144))) else (none)) else (some 0)
def galoisref23_Check.f (k : Nat) (a0_0 : Int) (l0_1 : List (List Int)) : Option (Int) := (galoisref22_Degree.f a0_0).bind fun t142 => (if t142 = 0 then (if (l0_1.length : Int) > 32 then (some 5) else (galoisref23_Check.l0 k 0 a0_0 l0_1)) else (some t142))
set_option maxHeartbeats 8000000 in
set_option maxRecDepth 100000 in
theorem galoisref23_Check.calls (k : Nat) (a0_0 : Int) (A0_1 : Option Addr) (c0_1 : Nat) (l0_1 : List (List Int)) (r : Int) (w : World) (hr0_1 : Kd.C (Kd.slice 3 (Kd.int .i64)) w A0_1 l0_1.length l0_1) (hc0_1 : l0_1.length ≤ c0_1) (h : galoisref23_Check.f k a0_0 l0_1 = some r) :
  Calls Try.prog 28 #[.agg #[.int .i64 a0_0, .slice A0_1 l0_1.length c0_1]] w fun e w' => e = .returned (.int .i64 r) ∧ Below w.heap.size w w' := by
 have hu := Try.underlying37
 have P0 := Aside0.mk hr0_1
 have L0 := Aside0.mk hc0_1
 unfold galoisref23_Check.f at h
 obtain ⟨t1, h1, h⟩ := Option.bind_eq_some_iff.1 h
 have E1 := Aside0.mk h1
 have X := Aside0.mk (blk_new w (.cells #[.int .i64 a0_0, .slice A0_1 l0_1.length c0_1] 37))
 have HB := Aside0.mk (show Below w.heap.size w (w.alloc (.cells #[.int .i64 a0_0, .slice A0_1 l0_1.length c0_1] 37)) from below_alloc (Below.refl _ _) _)
 have x00 := blk_cell X.out 0
 have x01 := blk_cell X.out 1
 have y00 := blk_frozen X.out 0
 have y01 := blk_frozen X.out 1
 clear hr0_1 hc0_1 h1
 by_cases c1 : t1 = 0
 ·subst c1
  rw [if_pos rfl] at h
  by_cases c2 : (l0_1.length : Int) > 32
  ·rw [if_pos c2] at h
   have d2 : decide (32 < (l0_1.length : Int)) = true := decide_eq_true c2
   have d3 : decide (32 < l0_1.length) = true := decide_eq_true (by omega)
   obtain rfl := Option.some.inj h
   go_enter Try.func28, Try.ntmps28
   go_wp2_with (go_at_call 51;(refine (galoisref22_Degree.calls a0_0 0 _ E1.out).mono ?_);rintro e w' ⟨rfl, nd, rfl⟩;(try first | exact ⟨rfl, _, World.drewN_drewN _ _ _⟩ | exact ⟨rfl, _, Eq.trans (World.drewN_drewN _ _ _) (congrArg (World.drewN _) (Nat.add_assoc _ _ _))⟩))
   go_ret
   exact ⟨rfl, (bel HB.out)⟩
  ·rw [if_neg c2] at h
   have d2 : decide (32 < (l0_1.length : Int)) = false := decide_eq_false c2
   have d3 : decide (32 < l0_1.length) = false := decide_eq_false (by omega)
   have H' := Aside0.mk h
   clear h
   go_enter Try.func28, Try.ntmps28
   go_wp2_with (go_at_call 51;(refine (galoisref22_Degree.calls a0_0 0 _ E1.out).mono ?_);rintro e w' ⟨rfl, nd, rfl⟩;(try first | exact ⟨rfl, _, World.drewN_drewN _ _ _⟩ | exact ⟨rfl, _, Eq.trans (World.drewN_drewN _ _ _) (congrArg (World.drewN _) (Nat.add_assoc _ _ _))⟩))
   go_loopg [4] k (fun kq v4 w' => ∃ x : Int, v4 = .int .i64 x ∧ Aside0 (galoisref23_Check.l0 kq x a0_0 l0_1 = some r) ∧ Aside0 (kq ≤ k) ∧ Aside0 (w'.heap[w.heap.size]? = some (.cells #[.int .i64 a0_0, .slice A0_1 l0_1.length c0_1] 37)) ∧ Aside0 (Below w.heap.size w w'))
   case atStart => exact ⟨0, rfl, H', ⟨Nat.le_refl _⟩, ⟨by simpa using X.out⟩, ⟨(bel HB.out)⟩⟩
   case round =>
    clear H' c2 d2 d3 x00 x01 y00 y01 X HB
    obtain ⟨x, rfl, HA, HK, X, HB⟩ := hrel
    cases gk with
    | zero => exact absurd HA.out (by simp [galoisref23_Check.l0])
    | succ k1 =>
     have H := HA.out
     simp only [galoisref23_Check.l0] at H
     have x00 := blk_cell X.out 0
     have x01 := blk_cell X.out 1
     have y00 := blk_frozen X.out 0
     have y01 := blk_frozen X.out 1
     by_cases c9 : x < (l0_1.length : Int)
     ·rw [if_pos c9] at H
      have d9 : decide (x < (l0_1.length : Int)) = true := decide_eq_true c9
      by_cases c10 : 0 ≤ x
      ·rw [if_pos c10] at H
       have d10 : decide (0 ≤ x) = true := decide_eq_true c10
       obtain ⟨t2, h2, H⟩ := Option.bind_eq_some_iff.1 H
       have E2 := Aside0.mk h2
       obtain ⟨ad, Ae, ce, e, hx, hl, hi⟩ := at_L1 P0.out x c10 c9
       cases e
       replace hx := (HB.out.cell (World.block_lt_of_cell? w _ hx)).trans hx
       have HR := Aside0.mk hi
       have HC := Aside0.mk hl
       clear hi hl h2
       replace c9 := eq_true c9
       replace c10 := eq_true c10
       by_cases c3 : t2 = 0
       ·subst c3
        rw [if_pos rfl] at H
        by_cases c4 : ((rd_L1 l0_1 x).length : Int) = a0_0
        ·rw [if_pos c4] at H
         have d4 : (((rd_L1 l0_1 x).length : Int) == a0_0) = true := beq_iff_eq.mpr c4
         have d5 : (((rd_L1 l0_1 x).length : Int) != a0_0) = false := bne_eq_false_iff_eq.mpr c4
         have H' := Aside0.mk H
         clear H c4
         go_wp2_with (go_at_call 45;(refine (galoisref22_Check.calls k1 Ae ce (rd_L1 l0_1 x) 0 _ ?s1 HC.out E2.out).mono ?_);(case s1 => first | exact Kd.C_below HR.out HB.out | exact Kd.C_drewN (Kd.C_below HR.out HB.out) _);rintro e w' ⟨rfl, nd, rfl⟩;(try first | exact ⟨rfl, _, World.drewN_drewN _ _ _⟩ | exact ⟨rfl, _, Eq.trans (World.drewN_drewN _ _ _) (congrArg (World.drewN _) (Nat.add_assoc _ _ _))⟩))
         first | (with_reducible show Handed _ _ _ _) | (repeat (go_quiet (fail);try go_wp2))
         go_roundg k1
         case measure => have := HK.out;omega
         case rel => exact ⟨_, rfl, H', ⟨by have := HK.out;omega⟩, ⟨by simpa using X.out⟩, ⟨(bel HB.out)⟩⟩
        ·rw [if_neg c4] at H
         have d4 : (((rd_L1 l0_1 x).length : Int) == a0_0) = false := beq_eq_false_iff_ne.mpr c4
         have d5 : (((rd_L1 l0_1 x).length : Int) != a0_0) = true := bne_iff_ne.mpr c4
         obtain rfl := Option.some.inj H
         go_wp2_with (go_at_call 45;(refine (galoisref22_Check.calls k1 Ae ce (rd_L1 l0_1 x) 0 _ ?s1 HC.out E2.out).mono ?_);(case s1 => first | exact Kd.C_below HR.out HB.out | exact Kd.C_drewN (Kd.C_below HR.out HB.out) _);rintro e w' ⟨rfl, nd, rfl⟩;(try first | exact ⟨rfl, _, World.drewN_drewN _ _ _⟩ | exact ⟨rfl, _, Eq.trans (World.drewN_drewN _ _ _) (congrArg (World.drewN _) (Nat.add_assoc _ _ _))⟩))
         first | (with_reducible show Handed _ _ _ _) | (repeat (go_quiet (fail);try go_wp2))
         go_ret
         exact ⟨rfl, (bel HB.out)⟩
       ·rw [if_neg c3] at H
        obtain rfl := Option.some.inj H
        have d4 : (t2 == 0) = false := beq_eq_false_iff_ne.mpr c3
        have d5 : (t2 != 0) = true := bne_iff_ne.mpr c3
        go_wp2_with (go_at_call 45;(refine (galoisref22_Check.calls k1 Ae ce (rd_L1 l0_1 x) t2 _ ?s1 HC.out E2.out).mono ?_);(case s1 => first | exact Kd.C_below HR.out HB.out | exact Kd.C_drewN (Kd.C_below HR.out HB.out) _);rintro e w' ⟨rfl, nd, rfl⟩;(try first | exact ⟨rfl, _, World.drewN_drewN _ _ _⟩ | exact ⟨rfl, _, Eq.trans (World.drewN_drewN _ _ _) (congrArg (World.drewN _) (Nat.add_assoc _ _ _))⟩))
        go_ret
        exact ⟨rfl, (bel HB.out)⟩
      ·rw [if_neg c10] at H
       exact absurd H (by simp)
     ·rw [if_neg c9] at H
      have d9 : decide (x < (l0_1.length : Int)) = false := decide_eq_false c9
      obtain rfl := Option.some.inj H
      go_wp2
      go_ret
      exact ⟨rfl, (bel HB.out)⟩
 ·rw [if_neg c1] at h
  have d2 : (t1 == 0) = false := beq_eq_false_iff_ne.mpr c1
  have d3 : (t1 != 0) = true := bne_iff_ne.mpr c1
  obtain rfl := Option.some.inj h
  go_enter Try.func28, Try.ntmps28
  go_wp2_with (go_at_call 51;(refine (galoisref22_Degree.calls a0_0 t1 _ E1.out).mono ?_);rintro e w' ⟨rfl, nd, rfl⟩;(try first | exact ⟨rfl, _, World.drewN_drewN _ _ _⟩ | exact ⟨rfl, _, Eq.trans (World.drewN_drewN _ _ _) (congrArg (World.drewN _) (Nat.add_assoc _ _ _))⟩))
  go_ret
  exact ⟨rfl, (bel HB.out)⟩
def galoisref23_Few.l0 : Nat → Int → Int → List (List Int) → Option (Bool)
 | 0, _, _, _ => none
 | k + 1, x3, x151000, x151001 => if x3 < (x151001.length : Int) then (if 0 ≤ x3 then (if ((rd_L1 x151001 x3).length : Int) > 40 then (some false) else (galoisref23_Few.l0 k (wrap64 (x3 + 1)) x151000 x151001)) else (none)) else (some true)
def galoisref23_Few.f (k : Nat) (a0_0 : Int) (l0_1 : List (List Int)) : Option (Bool) := if (l0_1.length : Int) > 40 then (some false) else (galoisref23_Few.l0 k 0 a0_0 l0_1)
set_option maxHeartbeats 8000000 in
set_option maxRecDepth 100000 in
theorem galoisref23_Few.calls (k : Nat) (a0_0 : Int) (A0_1 : Option Addr) (c0_1 : Nat) (l0_1 : List (List Int)) (r : Bool) (w : World) (hr0_1 : Kd.C (Kd.slice 3 (Kd.int .i64)) w A0_1 l0_1.length l0_1) (hc0_1 : l0_1.length ≤ c0_1) (h : galoisref23_Few.f k a0_0 l0_1 = some r) :
  Calls Try.prog 41 #[.agg #[.int .i64 a0_0, .slice A0_1 l0_1.length c0_1]] w fun e w' => e = .returned (.bool r) ∧ Below w.heap.size w w' := by
 have hu37 := Try.underlying37
 have HR0_1 := Aside0.mk hr0_1
 have HC0_1 := Aside0.mk hc0_1
 clear hr0_1 hc0_1
 have HB := Aside0.mk (Below.refl w.heap.size w)
 have H : (if (l0_1.length : Int) > 40 then (some false) else (galoisref23_Few.l0 k 0 a0_0 l0_1)) = some r := h
 clear h
 by_cases c2 : (l0_1.length : Int) > 40
 ·rw [if_pos c2] at H
  have c2b0 : decide (40 < (l0_1.length : Int)) = true := decide_eq_true c2
  have c2b1 : decide (40 < l0_1.length) = true := decide_eq_true (by omega)
  clear c2
  obtain rfl := Option.some.inj H
  go_enter Try.func41, Try.ntmps41
  go_wp2_with (first|((with_reducible refine gate_dst (N := 1) rfl ?_);refine box_event ?hg (N := 1) ?hd (cs := #[.int .i64 a0_0, .slice A0_1 l0_1.length c0_1]) (t := 37) ?hr ?_;(case hd => rfl);(case hg => rfl);(case hr => first | (go_simp;done) | (go_simp;rfl));intro gb150 hg w3 hbox hb;have n0_ := Aside0.mk (below_step (bel HB.out) hb);have n1_ := Aside0.mk (hbox);have n2_ := Aside0.mk ((by rw [hg];exact (below_size (bel HB.out)) : w.heap.size ≤ gb150));have n3_ := Aside0.mk ((by rw [hg];exact (below_size (bel HB.out)) : w.heap.size ≤ gb150));clear HB;have HB := n0_;have BK150 := n1_;have GW150 := n2_;have GE150 := n3_;clear n0_ n1_ n2_ n3_;clear hb hbox hg;have hcz4_0 : w3.cell? ⟨gb150, 0, none⟩ = some (.int .i64 a0_0) := (blk_cell BK150.out 0).trans rfl;have hcz4_1 : w3.cell? ⟨gb150, 1, none⟩ = some (.slice A0_1 l0_1.length c0_1) := (blk_cell BK150.out 1).trans rfl;have hfz4_0 := blk_frozen BK150.out 0;have hfz4_1 := blk_frozen BK150.out 1))
  go_ret
  exact ⟨by first | rfl | (simp [errW_none, errW_some] <;> rfl) | (simp [*, errW_none, errW_some] <;> rfl), bel HB.out⟩
 ·rw [if_neg c2] at H
  have c2b0 : decide (40 < (l0_1.length : Int)) = false := decide_eq_false c2
  have c2b1 : decide (40 < l0_1.length) = false := decide_eq_false (by omega)
  clear c2
  have H' := Aside0.mk H
  clear H
  go_enter Try.func41, Try.ntmps41
  go_wp2_with (first|((with_reducible refine gate_dst (N := 1) rfl ?_);refine box_event ?hg (N := 1) ?hd (cs := #[.int .i64 a0_0, .slice A0_1 l0_1.length c0_1]) (t := 37) ?hr ?_;(case hd => rfl);(case hg => rfl);(case hr => first | (go_simp;done) | (go_simp;rfl));intro gb150 hg w5 hbox hb;have n0_ := Aside0.mk (below_step (bel HB.out) hb);have n1_ := Aside0.mk (hbox);have n2_ := Aside0.mk ((by rw [hg];exact (below_size (bel HB.out)) : w.heap.size ≤ gb150));have n3_ := Aside0.mk ((by rw [hg];exact (below_size (bel HB.out)) : w.heap.size ≤ gb150));clear HB;have HB := n0_;have BK150 := n1_;have GW150 := n2_;have GE150 := n3_;clear n0_ n1_ n2_ n3_;clear hb hbox hg;have hcz6_0 : w5.cell? ⟨gb150, 0, none⟩ = some (.int .i64 a0_0) := (blk_cell BK150.out 0).trans rfl;have hcz6_1 : w5.cell? ⟨gb150, 1, none⟩ = some (.slice A0_1 l0_1.length c0_1) := (blk_cell BK150.out 1).trans rfl;have hfz6_0 := blk_frozen BK150.out 0;have hfz6_1 := blk_frozen BK150.out 1))
  go_loopg [3] k (fun kq v3 w' => ∃ (x3_1 : Int), v3 = .int .i64 x3_1 ∧ Aside0 (galoisref23_Few.l0 kq x3_1 a0_0 l0_1 = some r) ∧ Aside0 (kq ≤ k) ∧ Aside0 (w'.heap[gb150]? = some (.cells #[.int .i64 a0_0, (.slice A0_1 l0_1.length c0_1)] 37 (0, 0))) ∧ Aside0 (Below w.heap.size w w'))
  case atStart => exact ⟨(0), (by first | rfl | (simp;done) | (simp [*];done)), H', ⟨Nat.le_refl _⟩, ⟨blkst BK150.out⟩, ⟨bel HB.out⟩⟩
  case round =>
   clear H'
   try clear c2
   try clear c2b0
   try clear c2b1
   try clear p2
   try clear c4
   try clear hcz4_0
   try clear hcz4_1
   try clear hcz6_0
   try clear hcz6_1
   try clear hfz4_0
   try clear hfz4_1
   try clear hfz6_0
   try clear hfz6_1
   obtain ⟨x3_1, rfl, HA, HK1, BK150, HB⟩ := hrel
   cases gk with
   | zero => exact absurd HA.out (by simp [galoisref23_Few.l0])
   | succ k1 =>
    have H := HA.out
    clear HA
    simp only [galoisref23_Few.l0] at H
    by_cases c7 : x3_1 < (l0_1.length : Int)
    ·rw [if_pos c7] at H
     have c7b0 : decide (x3_1 < (l0_1.length : Int)) = true := decide_eq_true c7
     clear c7
     by_cases c8 : 0 ≤ x3_1
     ·rw [if_pos c8] at H
      have c8b0 : decide (0 ≤ x3_1) = true := decide_eq_true c8
      clear c8
      by_cases c9 : ((rd_L1 l0_1 x3_1).length : Int) > 40
      ·rw [if_pos c9] at H
       have c9b0 : decide (40 < ((rd_L1 l0_1 x3_1).length : Int)) = true := decide_eq_true c9
       have c9b1 : decide (40 < (rd_L1 l0_1 x3_1).length) = true := decide_eq_true (by omega)
       clear c9
       obtain rfl := Option.some.inj H
       have hcz10_0 : wr.cell? ⟨gb150, 0, none⟩ = some (.int .i64 a0_0) := (blk_cell BK150.out 0).trans rfl
       have hcz10_1 : wr.cell? ⟨gb150, 1, none⟩ = some (.slice A0_1 l0_1.length c0_1) := (blk_cell BK150.out 1).trans rfl
       have hfz10_0 := blk_frozen BK150.out 0
       have hfz10_1 := blk_frozen BK150.out 1
       have p151 : 0 ≤ (x3_1 : Int) := of_decide_eq_true (by assumption)
       have q151 : x3_1 < (l0_1.length : Int) := of_decide_eq_true (by assumption)
       obtain ⟨ad151, A151_0, c151_0, e151, hx151_0, hl151_0, hi151_0⟩ := at_L1 HR0_1.out x3_1 p151 q151
       cases e151
       try (replace hx151_0 := (HB.out.cell (World.block_lt_of_cell? w _ hx151_0)).trans hx151_0)
       have HR151_0 := Aside0.mk hi151_0
       have HC151_0 := Aside0.mk hl151_0
       clear hi151_0 hl151_0
       replace p151 := eq_true p151
       replace q151 := eq_true q151
       go_wp2
       go_ret
       exact ⟨by first | rfl | (simp [errW_none, errW_some] <;> rfl) | (simp [*, errW_none, errW_some] <;> rfl), bel HB.out⟩
      ·rw [if_neg c9] at H
       have c9b0 : decide (40 < ((rd_L1 l0_1 x3_1).length : Int)) = false := decide_eq_false c9
       have c9b1 : decide (40 < (rd_L1 l0_1 x3_1).length) = false := decide_eq_false (by omega)
       clear c9
       have H' := Aside0.mk H
       clear H
       have hcz11_0 : wr.cell? ⟨gb150, 0, none⟩ = some (.int .i64 a0_0) := (blk_cell BK150.out 0).trans rfl
       have hcz11_1 : wr.cell? ⟨gb150, 1, none⟩ = some (.slice A0_1 l0_1.length c0_1) := (blk_cell BK150.out 1).trans rfl
       have hfz11_0 := blk_frozen BK150.out 0
       have hfz11_1 := blk_frozen BK150.out 1
       have p151 : 0 ≤ (x3_1 : Int) := of_decide_eq_true (by assumption)
       have q151 : x3_1 < (l0_1.length : Int) := of_decide_eq_true (by assumption)
       obtain ⟨ad151, A151_0, c151_0, e151, hx151_0, hl151_0, hi151_0⟩ := at_L1 HR0_1.out x3_1 p151 q151
       cases e151
       try (replace hx151_0 := (HB.out.cell (World.block_lt_of_cell? w _ hx151_0)).trans hx151_0)
       have HR151_0 := Aside0.mk hi151_0
       have HC151_0 := Aside0.mk hl151_0
       clear hi151_0 hl151_0
       replace p151 := eq_true p151
       replace q151 := eq_true q151
       go_wp2
       go_roundg k1
       case measure => have := HK1.out;omega
       case rel => exact ⟨(wrap64 (x3_1 + 1)), (by first | rfl | (simp;done) | (simp [*];done)), H', ⟨by have := HK1.out;omega⟩, ⟨blkst BK150.out⟩, ⟨bel HB.out⟩⟩
     ·rw [if_neg c8] at H
      exact absurd H (by simp)
    ·rw [if_neg c7] at H
     have c7b0 : decide (x3_1 < (l0_1.length : Int)) = false := decide_eq_false c7
     clear c7
     obtain rfl := Option.some.inj H
     have hcz12_0 : wr.cell? ⟨gb150, 0, none⟩ = some (.int .i64 a0_0) := (blk_cell BK150.out 0).trans rfl
     have hcz12_1 : wr.cell? ⟨gb150, 1, none⟩ = some (.slice A0_1 l0_1.length c0_1) := (blk_cell BK150.out 1).trans rfl
     have hfz12_0 := blk_frozen BK150.out 0
     have hfz12_1 := blk_frozen BK150.out 1
     go_wp2
     go_ret
     exact ⟨by first | rfl | (simp [errW_none, errW_some] <;> rfl) | (simp [*, errW_none, errW_some] <;> rfl), bel HB.out⟩
def galoisref23_Place.l0 : Nat → List (List Int) → List Int → Int → Int → Option (Int)
 | 0, _, _, _, _ => none
 | k + 1, x0, x1, x5, x6 => if x5 < x6 then (if 0 ≤ (wrap64 (Int.tdiv (wrap64 (x5 + x6)) 2)) then (if (wrap64 (Int.tdiv (wrap64 (x5 + x6)) 2)) < (x0.length : Int) then ((galoisref22_Compare.f k (rd_L1 x0 (wrap64 (Int.tdiv (wrap64 (x5 + x6)) 2))) x1).bind fun t153 => (if t153 < 0 then (galoisref23_Place.l0 k x0 x1 (wrap64 ((wrap64 (Int.tdiv (wrap64 (x5 + x6)) 2)) + 1)) x6) else (galoisref23_Place.l0 k x0 x1 x5 (wrap64 (Int.tdiv (wrap64 (x5 + x6)) 2))))) else (none)) else (none)) else (some x5)
def galoisref23_Place.f (k : Nat) (l0 : List (List Int)) (l1 : List Int) : Option (Int) := galoisref23_Place.l0 k l0 l1 0 (l0.length : Int)
theorem galoisref23_Place.mono_l : ∀ k, (∀ y0 y1 y2 y3, LeO (galoisref23_Place.l0 k y0 y1 y2 y3) (galoisref23_Place.l0 (k + 1) y0 y1 y2 y3))
 | 0 => fun _ _ _ _ r h => by simp [galoisref23_Place.l0] at h
 | k + 1 => by
  have ih0 := galoisref23_Place.mono_l k
  ·intro y0 y1 y2 y3
   unfold galoisref23_Place.l0
   repeat' first
   | (with_reducible exact ih0 _ _ _ _)
   | (with_reducible exact galoisref22_Compare.mono _ _ _)
   | (with_reducible exact LeO.refl _)
   | (with_reducible exact LeO.none _)
   | (with_reducible refine LeO.ite ?_ ?_)
   | (with_reducible refine LeO.bind ?_ (fun _ => ?_))
   | exact ih0 _ _ _ _
   | exact galoisref22_Compare.mono _ _ _
   | exact LeO.none _
   | refine LeO.ite ?_ ?_
   | refine LeO.bind ?_ (fun _ => ?_)
theorem galoisref23_Place.mono : ∀ a0 a1 k, LeO (galoisref23_Place.f k a0 a1) (galoisref23_Place.f (k + 1) a0 a1) := by
 intro a0 a1 k
 have ih0 := galoisref23_Place.mono_l k
 unfold galoisref23_Place.f
 repeat' first
   | (with_reducible exact ih0 _ _ _ _)
   | (with_reducible exact galoisref22_Compare.mono _ _ _)
   | (with_reducible exact LeO.refl _)
   | (with_reducible exact LeO.none _)
   | (with_reducible refine LeO.ite ?_ ?_)
   | (with_reducible refine LeO.bind ?_ (fun _ => ?_))
   | exact ih0 _ _ _ _
   | exact galoisref22_Compare.mono _ _ _
   | exact LeO.none _
   | refine LeO.ite ?_ ?_
   | refine LeO.bind ?_ (fun _ => ?_)
set_option maxHeartbeats 8000000 in
set_option maxRecDepth 100000 in
theorem galoisref23_Place.calls (k : Nat) (A0 : Option Addr) (c0 : Nat) (l0 : List (List Int)) (A1 : Option Addr) (c1 : Nat) (l1 : List Int) (r : Int) (w : World) (hr0 : Kd.C (Kd.slice 3 (Kd.int .i64)) w A0 l0.length l0) (hc0 : l0.length ≤ c0) (hr1 : Kd.C (Kd.int .i64) w A1 l1.length l1) (hc1 : l1.length ≤ c1) (h : galoisref23_Place.f k l0 l1 = some r) :
  Calls Try.prog 114 #[.slice A0 l0.length c0, .slice A1 l1.length c1] w fun e w' => e = .returned (.int .i64 r) ∧ Drawn0 w w' := by
 have HR0 := Aside0.mk hr0
 have HC0 := Aside0.mk hc0
 clear hr0 hc0
 have HR1 := Aside0.mk hr1
 have HC1 := Aside0.mk hc1
 clear hr1 hc1
 have H : (galoisref23_Place.l0 k l0 l1 0 (l0.length : Int)) = some r := h
 clear h
 have H' := Aside0.mk H
 clear H
 go_enter Try.func114, Try.ntmps114
 go_wp2
 go_loopg [5, 6] k (fun kq v5 v6 w' => ∃ (x5_1 : Int) (x6_1 : Int), v5 = .int .i64 x5_1 ∧ v6 = .int .i64 x6_1 ∧ Aside0 (galoisref23_Place.l0 kq l0 l1 x5_1 x6_1 = some r) ∧ Aside0 (kq ≤ k) ∧ Drawn0 w w')
 case atStart => exact ⟨(0), ((l0.length : Int)), (by first | rfl | (simp;done) | (simp [*];done)), (by first | rfl | (simp;done) | (simp [*];done)), H', ⟨Nat.le_refl _⟩, by repeat (first|exact Drawn0.refl _ | apply Drawn0.step)⟩
 case round =>
  clear H'
  try clear c1
  try clear p2
  obtain ⟨x5_1, x6_1, rfl, rfl, HA, HK1, ⟨m1, rfl⟩⟩ := hrel
  cases gk with
  | zero => exact absurd HA.out (by simp [galoisref23_Place.l0])
  | succ k1 =>
   have H := HA.out
   clear HA
   simp only [galoisref23_Place.l0] at H
   by_cases c3 : x5_1 < x6_1
   ·rw [if_pos c3] at H
    have c3b0 : decide (x5_1 < x6_1) = true := decide_eq_true c3
    clear c3
    obtain ⟨ji4, hji4⟩ : ∃ j_ : Int, (wrap64 (Int.tdiv (wrap64 (x5_1 + x6_1)) 2)) = j_ := ⟨_, rfl⟩
    replace H : (if 0 ≤ (ji4) then (if (ji4) < (l0.length : Int) then ((galoisref22_Compare.f k1 (rd_L1 l0 (ji4)) l1).bind fun t153 => (if t153 < 0 then (galoisref23_Place.l0 k1 l0 l1 (wrap64 ((ji4) + 1)) x6_1) else (galoisref23_Place.l0 k1 l0 l1 x5_1 ji4))) else (none)) else (none)) = some r := by first | (rw [hji4] at H;exact H) | (simp only [hji4] at H ⊢;exact H)
    have hji4w : (IntKind.i64.wrap (Int.tdiv (wrap64 (x5_1 + x6_1)) 2)) = ji4 := (i64_w _).trans hji4
    by_cases c5 : 0 ≤ (ji4)
    ·rw [if_pos c5] at H
     have c5b0 : decide (0 ≤ (ji4)) = true := decide_eq_true c5
     clear c5
     by_cases c6 : (ji4) < (l0.length : Int)
     ·rw [if_pos c6] at H
      have c6b0 : decide ((ji4) < (l0.length : Int)) = true := decide_eq_true c6
      clear c6
      replace H := Option.bind_eq_some_iff.mp H
      obtain ⟨t153, A70, H⟩ := H
      replace H : (if t153 < 0 then (galoisref23_Place.l0 k1 l0 l1 (wrap64 ((ji4) + 1)) x6_1) else (galoisref23_Place.l0 k1 l0 l1 x5_1 ji4)) = some r := H
      have A7 := Aside0.mk A70
      clear A70
      by_cases c8 : t153 < 0
      ·rw [if_pos c8] at H
       have c8b0 : decide (t153 < 0) = true := decide_eq_true c8
       clear c8
       have H' := Aside0.mk H
       clear H
       have p152 : 0 ≤ ((ji4) : Int) := of_decide_eq_true (by assumption)
       have q152 : (ji4) < (l0.length : Int) := of_decide_eq_true (by assumption)
       obtain ⟨ad152, A152_0, c152_0, e152, hx152_0, hl152_0, hi152_0⟩ := at_L1 HR0.out (ji4) p152 q152
       cases e152
       have HR152_0 := Aside0.mk hi152_0
       have HC152_0 := Aside0.mk hl152_0
       clear hi152_0 hl152_0
       replace p152 := eq_true p152
       replace q152 := eq_true q152
       go_wp2_with (first|((with_reducible refine gate_callee (f := 59) rfl ?_);refine goesL_ (some 22) rfl rfl Try.func59 (by kernel_rfl) rfl #[.slice A152_0 (rd_L1 l0 (ji4)).length c152_0, .slice A1 l1.length c1] rfl (by (try simp only [List.map_toArray, List.map_cons, List.map_nil]);first | done | (simp only [hji4];rfl) | rfl | (simp only [List.length_drop, List.length_take];rfl)) ?_;(with_reducible refine (galoisref22_Compare.calls k1 _ _ (rd_L1 l0 (ji4)) _ _ l1 t153 _ ?side1 ?side2 ?side3 ?side4 A7.out).mono ?_);(case side1 => exact Cst HR152_0.out);(case side2 => exact HC152_0.out);(case side3 => exact Cst HR1.out);(case side4 => exact HC1.out);rintro e w' ⟨rfl, ⟨nd, rfl⟩⟩;refine ⟨_, rfl, ?_⟩))
       go_roundg k1
       case measure => have := HK1.out;((try clear hji4w);(try clear hji4);omega)
       case rel => exact ⟨(wrap64 ((ji4) + 1)), (x6_1), (by first | rfl | (simp;done) | (simp only [← hji4] <;> (first|rfl | simp)) | (simp [*];done)), (by first | rfl | (simp;done) | (simp [*];done)), H', ⟨by have := HK1.out;((try clear hji4w);(try clear hji4);omega)⟩, by repeat (first|exact Drawn0.refl _ | apply Drawn0.step)⟩
      ·rw [if_neg c8] at H
       have c8b0 : decide (t153 < 0) = false := decide_eq_false c8
       clear c8
       have H' := Aside0.mk H
       clear H
       have p152 : 0 ≤ ((ji4) : Int) := of_decide_eq_true (by assumption)
       have q152 : (ji4) < (l0.length : Int) := of_decide_eq_true (by assumption)
       obtain ⟨ad152, A152_0, c152_0, e152, hx152_0, hl152_0, hi152_0⟩ := at_L1 HR0.out (ji4) p152 q152
       cases e152
       have HR152_0 := Aside0.mk hi152_0
       have HC152_0 := Aside0.mk hl152_0
       clear hi152_0 hl152_0
       replace p152 := eq_true p152
       replace q152 := eq_true q152
       go_wp2_with (first|((with_reducible refine gate_callee (f := 59) rfl ?_);refine goesL_ (some 22) rfl rfl Try.func59 (by kernel_rfl) rfl #[.slice A152_0 (rd_L1 l0 (ji4)).length c152_0, .slice A1 l1.length c1] rfl (by (try simp only [List.map_toArray, List.map_cons, List.map_nil]);first | done | (simp only [hji4];rfl) | rfl | (simp only [List.length_drop, List.length_take];rfl)) ?_;(with_reducible refine (galoisref22_Compare.calls k1 _ _ (rd_L1 l0 (ji4)) _ _ l1 t153 _ ?side1 ?side2 ?side3 ?side4 A7.out).mono ?_);(case side1 => exact Cst HR152_0.out);(case side2 => exact HC152_0.out);(case side3 => exact Cst HR1.out);(case side4 => exact HC1.out);rintro e w' ⟨rfl, ⟨nd, rfl⟩⟩;refine ⟨_, rfl, ?_⟩))
       go_roundg k1
       case measure => have := HK1.out;((try clear hji4w);(try clear hji4);omega)
       case rel => exact ⟨(x5_1), (ji4), (by first | rfl | (simp;done) | (simp [*];done)), (by first | rfl | (simp;done) | (simp only [← hji4] <;> (first|rfl | simp)) | (simp [*];done)), H', ⟨by have := HK1.out;((try clear hji4w);(try clear hji4);omega)⟩, by repeat (first|exact Drawn0.refl _ | apply Drawn0.step)⟩
     ·rw [if_neg c6] at H
      exact absurd H (by simp)
    ·rw [if_neg c5] at H
     exact absurd H (by simp)
   ·rw [if_neg c3] at H
    have c3b0 : decide (x5_1 < x6_1) = false := decide_eq_false c3
    clear c3
    obtain rfl := Option.some.inj H
    go_wp2
    go_ret
    exact ⟨by first | rfl | (simp;done) | (simp [*];done), by repeat (first|exact Drawn0.refl _ | apply Drawn0.step)⟩
def galoisref23_Has.f (k : Nat) (l0 : List (List Int)) (l1 : List Int) : Option (Bool) := (galoisref23_Place.f k l0 l1).bind fun t154 => (if t154 < (l0.length : Int) then (if 0 ≤ t154 then ((galoisref22_Same.f k (rd_L1 l0 t154) l1).bind fun t156 => (some t156)) else (none)) else (some false))
theorem galoisref23_Has.mono : ∀ a0 a1 k, LeO (galoisref23_Has.f k a0 a1) (galoisref23_Has.f (k + 1) a0 a1) := by
 intro a0 a1 k
 unfold galoisref23_Has.f
 repeat' first
   | (with_reducible exact galoisref22_Same.mono _ _ _)
   | (with_reducible exact galoisref23_Place.mono _ _ _)
   | (with_reducible exact LeO.refl _)
   | (with_reducible exact LeO.none _)
   | (with_reducible refine LeO.ite ?_ ?_)
   | (with_reducible refine LeO.bind ?_ (fun _ => ?_))
   | exact galoisref22_Same.mono _ _ _
   | exact galoisref23_Place.mono _ _ _
   | exact LeO.none _
   | refine LeO.ite ?_ ?_
   | refine LeO.bind ?_ (fun _ => ?_)
set_option maxHeartbeats 8000000 in
set_option maxRecDepth 100000 in
theorem galoisref23_Has.calls (k : Nat) (A0 : Option Addr) (c0 : Nat) (l0 : List (List Int)) (A1 : Option Addr) (c1 : Nat) (l1 : List Int) (r : Bool) (w : World) (hr0 : Kd.C (Kd.slice 3 (Kd.int .i64)) w A0 l0.length l0) (hc0 : l0.length ≤ c0) (hr1 : Kd.C (Kd.int .i64) w A1 l1.length l1) (hc1 : l1.length ≤ c1) (h : galoisref23_Has.f k l0 l1 = some r) :
  Calls Try.prog 75 #[.slice A0 l0.length c0, .slice A1 l1.length c1] w fun e w' => e = .returned (.bool r) ∧ Drawn0 w w' := by
 have HR0 := Aside0.mk hr0
 have HC0 := Aside0.mk hc0
 clear hr0 hc0
 have HR1 := Aside0.mk hr1
 have HC1 := Aside0.mk hc1
 clear hr1 hc1
 have H : ((galoisref23_Place.f k l0 l1).bind fun t154 => (if t154 < (l0.length : Int) then (if 0 ≤ t154 then ((galoisref22_Same.f k (rd_L1 l0 t154) l1).bind fun t156 => (some t156)) else (none)) else (some false))) = some r := h
 clear h
 replace H := Option.bind_eq_some_iff.mp H
 obtain ⟨t154, A30, H⟩ := H
 replace H : (if t154 < (l0.length : Int) then (if 0 ≤ t154 then ((galoisref22_Same.f k (rd_L1 l0 t154) l1).bind fun t156 => (some t156)) else (none)) else (some false)) = some r := H
 have A3 := Aside0.mk A30
 clear A30
 by_cases c4 : t154 < (l0.length : Int)
 ·rw [if_pos c4] at H
  have c4b0 : decide (t154 < (l0.length : Int)) = true := decide_eq_true c4
  clear c4
  by_cases c5 : 0 ≤ t154
  ·rw [if_pos c5] at H
   have c5b0 : decide (0 ≤ t154) = true := decide_eq_true c5
   clear c5
   replace H := Option.bind_eq_some_iff.mp H
   obtain ⟨t156, A60, H⟩ := H
   replace H : (some t156) = some r := H
   have A6 := Aside0.mk A60
   clear A60
   obtain rfl := Option.some.inj H
   go_enter Try.func75, Try.ntmps75
   go_wp2_with (first|((with_reducible refine gate_callee (f := 114) rfl ?_);refine goesL_ (some 8) rfl rfl Try.func114 (by kernel_rfl) rfl #[.slice A0 l0.length c0, .slice A1 l1.length c1] rfl (by (try simp only [List.map_toArray, List.map_cons, List.map_nil]);first | done | rfl | (simp only [List.length_drop, List.length_take];rfl)) ?_;(with_reducible refine (galoisref23_Place.calls k _ _ l0 _ _ l1 t154 _ ?side1 ?side2 ?side3 ?side4 A3.out).mono ?_);(case side1 => exact Cst HR0.out);(case side2 => exact HC0.out);(case side3 => exact Cst HR1.out);(case side4 => exact HC1.out);rintro e w' ⟨rfl, ⟨nd, rfl⟩⟩;refine ⟨_, rfl, ?_⟩;have p155 : 0 ≤ (t154 : Int) := of_decide_eq_true (by assumption);have q155 : t154 < (l0.length : Int) := of_decide_eq_true (by assumption);obtain ⟨ad155, A155_0, c155_0, e155, hx155_0, hl155_0, hi155_0⟩ := at_L1 HR0.out t154 p155 q155;cases e155;have HR155_0 := Aside0.mk hi155_0;have HC155_0 := Aside0.mk hl155_0;clear hi155_0 hl155_0;replace p155 := eq_true p155;replace q155 := eq_true q155) | (go_at_call 14;(with_reducible refine (galoisref22_Same.calls k _ _ (rd_L1 l0 t154) _ _ l1 t156 _ ?side1 ?side2 ?side3 ?side4 A6.out).mono ?_);(case side1 => exact Cst HR155_0.out);(case side2 => exact HC155_0.out);(case side3 => exact Cst HR1.out);(case side4 => exact HC1.out);rintro e w' ⟨rfl, ⟨nd, rfl⟩⟩))
   go_ret
   exact ⟨by first | rfl | (simp;done) | (simp [*];done), by repeat (first|exact Drawn0.refl _ | apply Drawn0.step)⟩
  ·rw [if_neg c5] at H
   exact absurd H (by simp)
 ·rw [if_neg c4] at H
  have c4b0 : decide (t154 < (l0.length : Int)) = false := decide_eq_false c4
  clear c4
  obtain rfl := Option.some.inj H
  go_enter Try.func75, Try.ntmps75
  go_wp2_with (first|((with_reducible refine gate_callee (f := 114) rfl ?_);refine goesL_ (some 8) rfl rfl Try.func114 (by kernel_rfl) rfl #[.slice A0 l0.length c0, .slice A1 l1.length c1] rfl (by (try simp only [List.map_toArray, List.map_cons, List.map_nil]);first | done | rfl | (simp only [List.length_drop, List.length_take];rfl)) ?_;(with_reducible refine (galoisref23_Place.calls k _ _ l0 _ _ l1 t154 _ ?side1 ?side2 ?side3 ?side4 A3.out).mono ?_);(case side1 => exact Cst HR0.out);(case side2 => exact HC0.out);(case side3 => exact Cst HR1.out);(case side4 => exact HC1.out);rintro e w' ⟨rfl, ⟨nd, rfl⟩⟩;refine ⟨_, rfl, ?_⟩))
  go_ret
  exact ⟨by first | rfl | (simp;done) | (simp [*];done), by repeat (first|exact Drawn0.refl _ | apply Drawn0.step)⟩
def galoisref23_Equal.f (k : Nat) (a0_0 : Int) (l0_1 : List (List Int)) (a1_0 : Int) (l1_1 : List (List Int)) : Option (Bool) := if a0_0 = a1_0 then ((galoisref22_SamePerms.f k l0_1 l1_1).bind fun t159 => (some t159)) else (some false)
set_option maxHeartbeats 8000000 in
set_option maxRecDepth 100000 in
theorem galoisref23_Equal.calls (k : Nat) (a0_0 : Int) (A0_1 : Option Addr) (c0_1 : Nat) (l0_1 : List (List Int)) (a1_0 : Int) (A1_1 : Option Addr) (c1_1 : Nat) (l1_1 : List (List Int)) (r : Bool) (w : World) (hr0_1 : Kd.C (Kd.slice 3 (Kd.int .i64)) w A0_1 l0_1.length l0_1) (hc0_1 : l0_1.length ≤ c0_1) (hr1_1 : Kd.C (Kd.slice 3 (Kd.int .i64)) w A1_1 l1_1.length l1_1) (hc1_1 : l1_1.length ≤ c1_1) (h : galoisref23_Equal.f k a0_0 l0_1 a1_0 l1_1 = some r) :
  Calls Try.prog 37 #[.agg #[.int .i64 a0_0, .slice A0_1 l0_1.length c0_1], .agg #[.int .i64 a1_0, .slice A1_1 l1_1.length c1_1]] w fun e w' => e = .returned (.bool r) ∧ Below w.heap.size w w' := by
 have hu37 := Try.underlying37
 have HR0_1 := Aside0.mk hr0_1
 have HC0_1 := Aside0.mk hc0_1
 clear hr0_1 hc0_1
 have HR1_1 := Aside0.mk hr1_1
 have HC1_1 := Aside0.mk hc1_1
 clear hr1_1 hc1_1
 have HB := Aside0.mk (Below.refl w.heap.size w)
 have H : (if a0_0 = a1_0 then ((galoisref22_SamePerms.f k l0_1 l1_1).bind fun t159 => (some t159)) else (some false)) = some r := h
 clear h
 by_cases c3 : a0_0 = a1_0
 ·rw [if_pos c3] at H
  have c3b0 : (a0_0 == a1_0) = true := beq_iff_eq.mpr c3
  have c3b1 : (a0_0 != a1_0) = false := bne_eq_false_iff_eq.mpr c3
  clear c3
  replace H := Option.bind_eq_some_iff.mp H
  obtain ⟨t159, A40, H⟩ := H
  replace H : (some t159) = some r := H
  have A4 := Aside0.mk A40
  clear A40
  obtain rfl := Option.some.inj H
  go_enter Try.func37, Try.ntmps37
  go_wp2_with (first|((with_reducible refine gate_dst (N := 2) rfl ?_);refine box_event ?hg (N := 2) ?hd (cs := #[.int .i64 a0_0, .slice A0_1 l0_1.length c0_1]) (t := 37) ?hr ?_;(case hd => rfl);(case hg => rfl);(case hr => first | (go_simp;done) | (go_simp;rfl));intro gb157 hg w5 hbox hb;have n0_ := Aside0.mk (below_step (bel HB.out) hb);have n1_ := Aside0.mk (hbox);have n2_ := Aside0.mk ((by rw [hg];exact (below_size (bel HB.out)) : w.heap.size ≤ gb157));have n3_ := Aside0.mk ((by rw [hg];exact (below_size (bel HB.out)) : w.heap.size ≤ gb157));clear HB;have HB := n0_;have BK157 := n1_;have GW157 := n2_;have GE157 := n3_;clear n0_ n1_ n2_ n3_;clear hb hbox hg) | ((with_reducible refine gate_dst (N := 3) rfl ?_);refine box_event ?hg (N := 3) ?hd (cs := #[.int .i64 a1_0, .slice A1_1 l1_1.length c1_1]) (t := 37) ?hr ?_;(case hd => rfl);(case hg => rfl);(case hr => first | (go_simp;done) | (go_simp;rfl));intro gb158 hg w6 hbox hb;have n0_ := Aside0.mk (blk_below (blkst BK157.out) hb);have n1_ := Aside0.mk (below_step (bel HB.out) hb);have n2_ := Aside0.mk (hbox);have n3_ := Aside0.mk ((by rw [hg];exact (below_size (bel HB.out)) : w.heap.size ≤ gb158));have n4_ := Aside0.mk ((by rw [hg];exact (below_size (bel HB.out)) : w.heap.size ≤ gb158));have n5_ := Aside0.mk ((by rw [hg];exact Nat.ne_of_lt (blk_lt (g := gb157) (o := .cells #[.int .i64 a0_0, .slice A0_1 l0_1.length c0_1] 37 (0, 0)) (blkst BK157.out)) : gb157 ≠ gb158));have n6_ := Aside0.mk ((by rw [hg];exact Nat.ne_of_gt (blk_lt (g := gb157) (o := .cells #[.int .i64 a0_0, .slice A0_1 l0_1.length c0_1] 37 (0, 0)) (blkst BK157.out)) : gb158 ≠ gb157));clear BK157;clear HB;have BK157 := n0_;have HB := n1_;have BK158 := n2_;have GW158 := n3_;have GE158 := n4_;have NB157_158 := n5_;have NB158_157 := n6_;clear n0_ n1_ n2_ n3_ n4_ n5_ n6_;clear hb hbox hg;have hnb7 := NB157_158.out;have hnc7 := NB158_157.out;have hcz8_0 : w6.cell? ⟨gb157, 0, none⟩ = some (.int .i64 a0_0) := (blk_cell BK157.out 0).trans rfl;have hcz8_1 : w6.cell? ⟨gb157, 1, none⟩ = some (.slice A0_1 l0_1.length c0_1) := (blk_cell BK157.out 1).trans rfl;have hfz8_0 := blk_frozen BK157.out 0;have hfz8_1 := blk_frozen BK157.out 1;have hcz9_0 : w6.cell? ⟨gb158, 0, none⟩ = some (.int .i64 a1_0) := (blk_cell BK158.out 0).trans rfl;have hcz9_1 : w6.cell? ⟨gb158, 1, none⟩ = some (.slice A1_1 l1_1.length c1_1) := (blk_cell BK158.out 1).trans rfl;have hfz9_0 := blk_frozen BK158.out 0;have hfz9_1 := blk_frozen BK158.out 1) | (go_at_call 36;(with_reducible refine (galoisref22_SamePerms.calls k _ _ l0_1 _ _ l1_1 t159 _ ?side1 ?side2 ?side3 ?side4 A4.out).mono ?_);(case side1 => exact Cst (Kd.C_below HR0_1.out HB.out));(case side2 => exact HC0_1.out);(case side3 => exact Cst (Kd.C_below HR1_1.out HB.out));(case side4 => exact HC1_1.out);rintro e w' ⟨rfl, ⟨nd, rfl⟩⟩))
  go_ret
  exact ⟨by first | rfl | (simp [errW_none, errW_some] <;> rfl) | (simp [*, errW_none, errW_some] <;> rfl), bel HB.out⟩
 ·rw [if_neg c3] at H
  have c3b0 : (a0_0 == a1_0) = false := beq_eq_false_iff_ne.mpr c3
  have c3b1 : (a0_0 != a1_0) = true := bne_iff_ne.mpr c3
  obtain rfl := Option.some.inj H
  go_enter Try.func37, Try.ntmps37
  go_wp2_with (first|((with_reducible refine gate_dst (N := 2) rfl ?_);refine box_event ?hg (N := 2) ?hd (cs := #[.int .i64 a0_0, .slice A0_1 l0_1.length c0_1]) (t := 37) ?hr ?_;(case hd => rfl);(case hg => rfl);(case hr => first | (go_simp;done) | (go_simp;rfl));intro gb157 hg w10 hbox hb;have n0_ := Aside0.mk (below_step (bel HB.out) hb);have n1_ := Aside0.mk (hbox);have n2_ := Aside0.mk ((by rw [hg];exact (below_size (bel HB.out)) : w.heap.size ≤ gb157));have n3_ := Aside0.mk ((by rw [hg];exact (below_size (bel HB.out)) : w.heap.size ≤ gb157));clear HB;have HB := n0_;have BK157 := n1_;have GW157 := n2_;have GE157 := n3_;clear n0_ n1_ n2_ n3_;clear hb hbox hg) | ((with_reducible refine gate_dst (N := 3) rfl ?_);refine box_event ?hg (N := 3) ?hd (cs := #[.int .i64 a1_0, .slice A1_1 l1_1.length c1_1]) (t := 37) ?hr ?_;(case hd => rfl);(case hg => rfl);(case hr => first | (go_simp;done) | (go_simp;rfl));intro gb158 hg w11 hbox hb;have n0_ := Aside0.mk (blk_below (blkst BK157.out) hb);have n1_ := Aside0.mk (below_step (bel HB.out) hb);have n2_ := Aside0.mk (hbox);have n3_ := Aside0.mk ((by rw [hg];exact (below_size (bel HB.out)) : w.heap.size ≤ gb158));have n4_ := Aside0.mk ((by rw [hg];exact (below_size (bel HB.out)) : w.heap.size ≤ gb158));have n5_ := Aside0.mk ((by rw [hg];exact Nat.ne_of_lt (blk_lt (g := gb157) (o := .cells #[.int .i64 a0_0, .slice A0_1 l0_1.length c0_1] 37 (0, 0)) (blkst BK157.out)) : gb157 ≠ gb158));have n6_ := Aside0.mk ((by rw [hg];exact Nat.ne_of_gt (blk_lt (g := gb157) (o := .cells #[.int .i64 a0_0, .slice A0_1 l0_1.length c0_1] 37 (0, 0)) (blkst BK157.out)) : gb158 ≠ gb157));clear BK157;clear HB;have BK157 := n0_;have HB := n1_;have BK158 := n2_;have GW158 := n3_;have GE158 := n4_;have NB157_158 := n5_;have NB158_157 := n6_;clear n0_ n1_ n2_ n3_ n4_ n5_ n6_;clear hb hbox hg;have hnb12 := NB157_158.out;have hnc12 := NB158_157.out;have hcz13_0 : w11.cell? ⟨gb157, 0, none⟩ = some (.int .i64 a0_0) := (blk_cell BK157.out 0).trans rfl;have hcz13_1 : w11.cell? ⟨gb157, 1, none⟩ = some (.slice A0_1 l0_1.length c0_1) := (blk_cell BK157.out 1).trans rfl;have hfz13_0 := blk_frozen BK157.out 0;have hfz13_1 := blk_frozen BK157.out 1;have hcz14_0 : w11.cell? ⟨gb158, 0, none⟩ = some (.int .i64 a1_0) := (blk_cell BK158.out 0).trans rfl;have hcz14_1 : w11.cell? ⟨gb158, 1, none⟩ = some (.slice A1_1 l1_1.length c1_1) := (blk_cell BK158.out 1).trans rfl;have hfz14_0 := blk_frozen BK158.out 0;have hfz14_1 := blk_frozen BK158.out 1))
  go_ret
  exact ⟨by first | rfl | (simp [errW_none, errW_some] <;> rfl) | (simp [*, errW_none, errW_some] <;> rfl), bel HB.out⟩
end Go.Proofs.Ytmbldnoepjmhhaa.PRf
