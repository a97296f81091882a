-- Printed.
import Derived.Test.YtmbldnoepjmhhaaGreatZPermgroupPairsMg0
import Derived.Test.YtmbldnoepjmhhaaGreatZPermgroupPairsPRfx0
import Derived.Test.YtmbldnoepjmhhaaGreatZPermgroupPairsPRfx1
import Derived.Test.YtmbldnoepjmhhaaGreatZPermgroupPairsPRfx2
namespace Go.Proofs.YtmbldnoepjmhhaaGreat.PRf
open Go.RowKit Go.Proofs.YtmbldnoepjmhhaaGreatW.PrintWords Go.Proofs.YtmbldnoepjmhhaaGreatW.PrintLast Go.Proofs.YtmbldnoepjmhhaaGreatW.PrintMore Go.Proofs.YtmbldnoepjmhhaaGreat.PAll
attribute [local go_sem] max2_int min2_int max_two min_two max_three min_three max_four min_four
set_option linter.unusedVariables false
set_option linter.unusedSimpArgs false
def galoisref23_Two.f (k : Nat) (a0_0 : Int) (l0_1 : List (List Int)) (a1_0 : Int) (l1_1 : List (List Int)) : Option (Int) := (galoisref23_Check.f k a0_0 l0_1).bind fun t145 => (if t145 = 0 then ((galoisref23_Check.f k a1_0 l1_1).bind fun t146 => (if t146 = 0 then (if a0_0 = a1_0 then (some 0) else (some 2)) else (some t146))) else (some t145))
set_option maxHeartbeats 8000000 in
set_option maxRecDepth 100000 in
theorem galoisref23_Two.calls (k : Nat) (a0_0 : Int) (A0_1 : Option Addr) (c0_1 : Nat) (l0_1 : List (List Int)) (a1_0 : Int) (A1_1 : Option Addr) (c1_1 : Nat) (l1_1 : List (List Int)) (r : Int) (w : World) (hr0_1 : Kd.C (Kd.slice 3 (Kd.int .i64)) w A0_1 l0_1.length l0_1) (hc0_1 : l0_1.length ≤ c0_1) (hr1_1 : Kd.C (Kd.slice 3 (Kd.int .i64)) w A1_1 l1_1.length l1_1) (hc1_1 : l1_1.length ≤ c1_1) (h : galoisref23_Two.f k a0_0 l0_1 a1_0 l1_1 = some r) :
  Calls Tryz.prog 32 #[.agg #[.int .i64 a0_0, .slice A0_1 l0_1.length c0_1], .agg #[.int .i64 a1_0, .slice A1_1 l1_1.length c1_1]] w fun e w' => e = .returned (.int .i64 r) ∧ Below w.heap.size w w' := by
 have hu := Tryz.underlying24
 have P0 := Aside0.mk hr0_1
 have L0 := Aside0.mk hc0_1
 have P1 := Aside0.mk hr1_1
 have L1 := Aside0.mk hc1_1
 unfold galoisref23_Two.f at h
 obtain ⟨t1, h1, h⟩ := Option.bind_eq_some_iff.1 h
 have E1 := Aside0.mk h1
 have X := Aside0.mk (show ((w.alloc (.cells #[.int .i64 a0_0, .slice A0_1 l0_1.length c0_1] 24)).alloc (.cells #[.int .i64 a1_0, .slice A1_1 l1_1.length c1_1] 24)).heap[w.heap.size]? = some (.cells #[.int .i64 a0_0, .slice A0_1 l0_1.length c0_1] 24) ∧ ((w.alloc (.cells #[.int .i64 a0_0, .slice A0_1 l0_1.length c0_1] 24)).alloc (.cells #[.int .i64 a1_0, .slice A1_1 l1_1.length c1_1] 24)).heap[w.heap.size + 1]? = some (.cells #[.int .i64 a1_0, .slice A1_1 l1_1.length c1_1] 24) from by
  have h1 := blk_new w (.cells #[.int .i64 a0_0, .slice A0_1 l0_1.length c0_1] 24)
  have h2 := blk_new (w.alloc (.cells #[.int .i64 a0_0, .slice A0_1 l0_1.length c0_1] 24)) (.cells #[.int .i64 a1_0, .slice A1_1 l1_1.length c1_1] 24)
  rw [show (w.alloc (.cells #[.int .i64 a0_0, .slice A0_1 l0_1.length c0_1] 24)).heap.size = w.heap.size + 1 by simp] at h2
  exact ⟨((below_alloc (Below.refl _ _) _).block _ (blk_lt h1)).trans h1, h2⟩)
 have B := Aside0.mk (show Below w.heap.size w ((w.alloc (.cells #[.int .i64 a0_0, .slice A0_1 l0_1.length c0_1] 24)).alloc (.cells #[.int .i64 a1_0, .slice A1_1 l1_1.length c1_1] 24)) from below_alloc (below_alloc (Below.refl _ _) _) _)
 clear hr0_1 hc0_1 hr1_1 hc1_1 h1
 go_enter Tryz.func32, Tryz.ntmps32
 by_cases c1 : t1 = 0
 ·subst c1
  rw [if_pos rfl] at h
  obtain ⟨t2, h2, h⟩ := Option.bind_eq_some_iff.1 h
  have E2 := Aside0.mk h2
  clear h2
  by_cases c2 : t2 = 0
  ·subst c2
   rw [if_pos rfl] at h
   by_cases c3 : a0_0 = a1_0
   ·rw [if_pos c3] at h
    obtain rfl := Option.some.inj h
    have n3 : (a0_0 == a1_0) = true := beq_iff_eq.mpr c3
    have m3 : (a0_0 != a1_0) = false := (by simp [c3])
    clear h c3
    go_wp2_with (first
     | (go_at_call 46;(refine (galoisref23_Check.calls k a1_0 A1_1 c1_1 l1_1 0 _ (Kd.C_below P1.out (below_step B1.out bel0)) L1.out E2.out).mono ?_);rintro e2 w2 ⟨rfl, hb⟩;have hq := below_step (w := w1) bel0 hb;have B2 := Aside0.mk (below_step B1.out hq);have X2 := Aside0.mk (And.intro ((hq.block _ (blk_lt X1.out.1)).trans X1.out.1) ((hq.block _ (blk_lt X1.out.2)).trans X1.out.2));have x20 := blk_cell X2.out.1 0;have x21 := blk_cell X2.out.1 1;have y20 := blk_cell X2.out.2 0;have y21 := blk_cell X2.out.2 1;have z2 := blk_lt X2.out.1;have v2 := blk_lt X2.out.2;clear hb hq)
     | (go_at_call 46;(refine (galoisref23_Check.calls k a0_0 A0_1 c0_1 l0_1 0 _ (Kd.C_below P0.out (below_step B.out bel0)) L0.out E1.out).mono ?_);rintro e1 w1 ⟨rfl, hb⟩;have hq := below_step (w := ((w.alloc (.cells #[.int .i64 a0_0, .slice A0_1 l0_1.length c0_1] 24)).alloc (.cells #[.int .i64 a1_0, .slice A1_1 l1_1.length c1_1] 24))) bel0 hb;have B1 := Aside0.mk (below_step B.out hq);have X1 := Aside0.mk (And.intro ((hq.block _ (blk_lt X.out.1)).trans X.out.1) ((hq.block _ (blk_lt X.out.2)).trans X.out.2));have x10 := blk_cell X1.out.1 0;have x11 := blk_cell X1.out.1 1;have y10 := blk_cell X1.out.2 0;have y11 := blk_cell X1.out.2 1;have z1 := blk_lt X1.out.1;have v1 := blk_lt X1.out.2;clear hb hq))
    go_ret
    exact ⟨rfl, B2.out⟩
   ·rw [if_neg c3] at h
    obtain rfl := Option.some.inj h
    have n3 : (a0_0 == a1_0) = false := beq_eq_false_iff_ne.mpr c3
    have m3 : (a0_0 != a1_0) = true := bne_iff_ne.mpr c3
    clear h c3
    go_wp2_with (first
     | (go_at_call 46;(refine (galoisref23_Check.calls k a1_0 A1_1 c1_1 l1_1 0 _ (Kd.C_below P1.out (below_step B1.out bel0)) L1.out E2.out).mono ?_);rintro e2 w2 ⟨rfl, hb⟩;have hq := below_step (w := w1) bel0 hb;have B2 := Aside0.mk (below_step B1.out hq);have X2 := Aside0.mk (And.intro ((hq.block _ (blk_lt X1.out.1)).trans X1.out.1) ((hq.block _ (blk_lt X1.out.2)).trans X1.out.2));have x20 := blk_cell X2.out.1 0;have x21 := blk_cell X2.out.1 1;have y20 := blk_cell X2.out.2 0;have y21 := blk_cell X2.out.2 1;have z2 := blk_lt X2.out.1;have v2 := blk_lt X2.out.2;clear hb hq)
     | (go_at_call 46;(refine (galoisref23_Check.calls k a0_0 A0_1 c0_1 l0_1 0 _ (Kd.C_below P0.out (below_step B.out bel0)) L0.out E1.out).mono ?_);rintro e1 w1 ⟨rfl, hb⟩;have hq := below_step (w := ((w.alloc (.cells #[.int .i64 a0_0, .slice A0_1 l0_1.length c0_1] 24)).alloc (.cells #[.int .i64 a1_0, .slice A1_1 l1_1.length c1_1] 24))) bel0 hb;have B1 := Aside0.mk (below_step B.out hq);have X1 := Aside0.mk (And.intro ((hq.block _ (blk_lt X.out.1)).trans X.out.1) ((hq.block _ (blk_lt X.out.2)).trans X.out.2));have x10 := blk_cell X1.out.1 0;have x11 := blk_cell X1.out.1 1;have y10 := blk_cell X1.out.2 0;have y11 := blk_cell X1.out.2 1;have z1 := blk_lt X1.out.1;have v1 := blk_lt X1.out.2;clear hb hq))
    go_ret
    exact ⟨rfl, B2.out⟩
  ·rw [if_neg c2] at h
   obtain rfl := Option.some.inj h
   have n2 : (t2 == 0) = false := beq_eq_false_iff_ne.mpr c2
   have m2 : (t2 != 0) = true := bne_iff_ne.mpr c2
   clear h c2
   go_wp2_with (first
    | (go_at_call 46;(refine (galoisref23_Check.calls k a1_0 A1_1 c1_1 l1_1 t2 _ (Kd.C_below P1.out (below_step B1.out bel0)) L1.out E2.out).mono ?_);rintro e2 w2 ⟨rfl, hb⟩;have hq := below_step (w := w1) bel0 hb;have B2 := Aside0.mk (below_step B1.out hq);have X2 := Aside0.mk (And.intro ((hq.block _ (blk_lt X1.out.1)).trans X1.out.1) ((hq.block _ (blk_lt X1.out.2)).trans X1.out.2));have x20 := blk_cell X2.out.1 0;have x21 := blk_cell X2.out.1 1;have y20 := blk_cell X2.out.2 0;have y21 := blk_cell X2.out.2 1;have z2 := blk_lt X2.out.1;have v2 := blk_lt X2.out.2;clear hb hq)
    | (go_at_call 46;(refine (galoisref23_Check.calls k a0_0 A0_1 c0_1 l0_1 0 _ (Kd.C_below P0.out (below_step B.out bel0)) L0.out E1.out).mono ?_);rintro e1 w1 ⟨rfl, hb⟩;have hq := below_step (w := ((w.alloc (.cells #[.int .i64 a0_0, .slice A0_1 l0_1.length c0_1] 24)).alloc (.cells #[.int .i64 a1_0, .slice A1_1 l1_1.length c1_1] 24))) bel0 hb;have B1 := Aside0.mk (below_step B.out hq);have X1 := Aside0.mk (And.intro ((hq.block _ (blk_lt X.out.1)).trans X.out.1) ((hq.block _ (blk_lt X.out.2)).trans X.out.2));have x10 := blk_cell X1.out.1 0;have x11 := blk_cell X1.out.1 1;have y10 := blk_cell X1.out.2 0;have y11 := blk_cell X1.out.2 1;have z1 := blk_lt X1.out.1;have v1 := blk_lt X1.out.2;clear hb hq))
   go_ret
   exact ⟨rfl, B2.out⟩
 ·rw [if_neg c1] at h
  obtain rfl := Option.some.inj h
  have n1 : (t1 == 0) = false := beq_eq_false_iff_ne.mpr c1
  have m1 : (t1 != 0) = true := bne_iff_ne.mpr c1
  clear h c1
  go_wp2_with (go_at_call 46;(refine (galoisref23_Check.calls k a0_0 A0_1 c0_1 l0_1 t1 _ (Kd.C_below P0.out (below_step B.out bel0)) L0.out E1.out).mono ?_);rintro e1 w1 ⟨rfl, hb⟩;have hq := below_step (w := ((w.alloc (.cells #[.int .i64 a0_0, .slice A0_1 l0_1.length c0_1] 24)).alloc (.cells #[.int .i64 a1_0, .slice A1_1 l1_1.length c1_1] 24))) bel0 hb;have B1 := Aside0.mk (below_step B.out hq);have X1 := Aside0.mk (And.intro ((hq.block _ (blk_lt X.out.1)).trans X.out.1) ((hq.block _ (blk_lt X.out.2)).trans X.out.2));have x10 := blk_cell X1.out.1 0;have x11 := blk_cell X1.out.1 1;have y10 := blk_cell X1.out.2 0;have y11 := blk_cell X1.out.2 1;have z1 := blk_lt X1.out.1;have v1 := blk_lt X1.out.2;clear hb hq)
  go_ret
  exact ⟨rfl, B1.out⟩
def galoisref23_Few.l0 : Nat → Int → Int → List (List Int) → Option (Bool)
 | 0, _, _, _ => none
 | k + 1, x3, x148000, x148001 => if x3 < (x148001.length : Int) then (if 0 ≤ x3 then (if ((rd_L1 x148001 x3).length : Int) > 40 then (some false) else (galoisref23_Few.l0 k (wrap64 (x3 + 1)) x148000 x148001)) else (none)) else (some true)
def galoisref23_Few.f (k : Nat) (a0_0 : Int) (l0_1 : List (List Int)) : Option (Bool) := if (l0_1.length : Int) > 40 then (some false) else (galoisref23_Few.l0 k 0 a0_0 l0_1)
set_option maxHeartbeats 8000000 in
set_option maxRecDepth 100000 in
theorem galoisref23_Few.calls (k : Nat) (a0_0 : Int) (A0_1 : Option Addr) (c0_1 : Nat) (l0_1 : List (List Int)) (r : Bool) (w : World) (hr0_1 : Kd.C (Kd.slice 3 (Kd.int .i64)) w A0_1 l0_1.length l0_1) (hc0_1 : l0_1.length ≤ c0_1) (h : galoisref23_Few.f k a0_0 l0_1 = some r) :
  Calls Tryz.prog 45 #[.agg #[.int .i64 a0_0, .slice A0_1 l0_1.length c0_1]] w fun e w' => e = .returned (.bool r) ∧ Below w.heap.size w w' := by
 have hu24 := Tryz.underlying24
 have HR0_1 := Aside0.mk hr0_1
 have HC0_1 := Aside0.mk hc0_1
 clear hr0_1 hc0_1
 have HB := Aside0.mk (Below.refl w.heap.size w)
 have H : (if (l0_1.length : Int) > 40 then (some false) else (galoisref23_Few.l0 k 0 a0_0 l0_1)) = some r := h
 clear h
 by_cases c2 : (l0_1.length : Int) > 40
 ·rw [if_pos c2] at H
  have c2b0 : decide (40 < (l0_1.length : Int)) = true := decide_eq_true c2
  have c2b1 : decide (40 < l0_1.length) = true := decide_eq_true (by omega)
  clear c2
  obtain rfl := Option.some.inj H
  go_enter Tryz.func45, Tryz.ntmps45
  go_wp2_with (first|((with_reducible refine gate_dst (N := 1) rfl ?_);refine box_event ?hg (N := 1) ?hd (cs := #[.int .i64 a0_0, .slice A0_1 l0_1.length c0_1]) (t := 24) ?hr ?_;(case hd => rfl);(case hg => rfl);(case hr => first | (go_simp;done) | (go_simp;rfl));intro gb147 hg w3 hbox hb;have n0_ := Aside0.mk (below_step (bel HB.out) hb);have n1_ := Aside0.mk (hbox);have n2_ := Aside0.mk ((by rw [hg];exact (below_size (bel HB.out)) : w.heap.size ≤ gb147));have n3_ := Aside0.mk ((by rw [hg];exact (below_size (bel HB.out)) : w.heap.size ≤ gb147));clear HB;have HB := n0_;have BK147 := n1_;have GW147 := n2_;have GE147 := n3_;clear n0_ n1_ n2_ n3_;clear hb hbox hg;have hcz4_0 : w3.cell? ⟨gb147, 0, none⟩ = some (.int .i64 a0_0) := (blk_cell BK147.out 0).trans rfl;have hcz4_1 : w3.cell? ⟨gb147, 1, none⟩ = some (.slice A0_1 l0_1.length c0_1) := (blk_cell BK147.out 1).trans rfl;have hfz4_0 := blk_frozen BK147.out 0;have hfz4_1 := blk_frozen BK147.out 1))
  go_ret
  exact ⟨by first | rfl | (simp [errW_none, errW_some] <;> rfl) | (simp [*, errW_none, errW_some] <;> rfl), bel HB.out⟩
 ·rw [if_neg c2] at H
  have c2b0 : decide (40 < (l0_1.length : Int)) = false := decide_eq_false c2
  have c2b1 : decide (40 < l0_1.length) = false := decide_eq_false (by omega)
  clear c2
  have H' := Aside0.mk H
  clear H
  go_enter Tryz.func45, Tryz.ntmps45
  go_wp2_with (first|((with_reducible refine gate_dst (N := 1) rfl ?_);refine box_event ?hg (N := 1) ?hd (cs := #[.int .i64 a0_0, .slice A0_1 l0_1.length c0_1]) (t := 24) ?hr ?_;(case hd => rfl);(case hg => rfl);(case hr => first | (go_simp;done) | (go_simp;rfl));intro gb147 hg w5 hbox hb;have n0_ := Aside0.mk (below_step (bel HB.out) hb);have n1_ := Aside0.mk (hbox);have n2_ := Aside0.mk ((by rw [hg];exact (below_size (bel HB.out)) : w.heap.size ≤ gb147));have n3_ := Aside0.mk ((by rw [hg];exact (below_size (bel HB.out)) : w.heap.size ≤ gb147));clear HB;have HB := n0_;have BK147 := n1_;have GW147 := n2_;have GE147 := n3_;clear n0_ n1_ n2_ n3_;clear hb hbox hg;have hcz6_0 : w5.cell? ⟨gb147, 0, none⟩ = some (.int .i64 a0_0) := (blk_cell BK147.out 0).trans rfl;have hcz6_1 : w5.cell? ⟨gb147, 1, none⟩ = some (.slice A0_1 l0_1.length c0_1) := (blk_cell BK147.out 1).trans rfl;have hfz6_0 := blk_frozen BK147.out 0;have hfz6_1 := blk_frozen BK147.out 1))
  go_loopg [3] k (fun kq v3 w' => ∃ (x3_1 : Int), v3 = .int .i64 x3_1 ∧ Aside0 (galoisref23_Few.l0 kq x3_1 a0_0 l0_1 = some r) ∧ Aside0 (kq ≤ k) ∧ Aside0 (w'.heap[gb147]? = some (.cells #[.int .i64 a0_0, (.slice A0_1 l0_1.length c0_1)] 24 (0, 0))) ∧ Aside0 (Below w.heap.size w w'))
  case atStart => exact ⟨(0), (by first | rfl | (simp;done) | (simp [*];done)), H', ⟨Nat.le_refl _⟩, ⟨blkst BK147.out⟩, ⟨bel HB.out⟩⟩
  case round =>
   clear H'
   try clear c2
   try clear c2b0
   try clear c2b1
   try clear p2
   try clear c4
   try clear hcz4_0
   try clear hcz4_1
   try clear hcz6_0
   try clear hcz6_1
   try clear hfz4_0
   try clear hfz4_1
   try clear hfz6_0
   try clear hfz6_1
   obtain ⟨x3_1, rfl, HA, HK1, BK147, HB⟩ := hrel
   cases gk with
   | zero => exact absurd HA.out (by simp [galoisref23_Few.l0])
   | succ k1 =>
    have H := HA.out
    clear HA
    simp only [galoisref23_Few.l0] at H
    by_cases c7 : x3_1 < (l0_1.length : Int)
    ·rw [if_pos c7] at H
     have c7b0 : decide (x3_1 < (l0_1.length : Int)) = true := decide_eq_true c7
     clear c7
     by_cases c8 : 0 ≤ x3_1
     ·rw [if_pos c8] at H
      have c8b0 : decide (0 ≤ x3_1) = true := decide_eq_true c8
      clear c8
      by_cases c9 : ((rd_L1 l0_1 x3_1).length : Int) > 40
      ·rw [if_pos c9] at H
       have c9b0 : decide (40 < ((rd_L1 l0_1 x3_1).length : Int)) = true := decide_eq_true c9
       have c9b1 : decide (40 < (rd_L1 l0_1 x3_1).length) = true := decide_eq_true (by omega)
       clear c9
       obtain rfl := Option.some.inj H
       have hcz10_0 : wr.cell? ⟨gb147, 0, none⟩ = some (.int .i64 a0_0) := (blk_cell BK147.out 0).trans rfl
       have hcz10_1 : wr.cell? ⟨gb147, 1, none⟩ = some (.slice A0_1 l0_1.length c0_1) := (blk_cell BK147.out 1).trans rfl
       have hfz10_0 := blk_frozen BK147.out 0
       have hfz10_1 := blk_frozen BK147.out 1
       have p148 : 0 ≤ (x3_1 : Int) := of_decide_eq_true (by assumption)
       have q148 : x3_1 < (l0_1.length : Int) := of_decide_eq_true (by assumption)
       obtain ⟨ad148, A148_0, c148_0, e148, hx148_0, hl148_0, hi148_0⟩ := at_L1 HR0_1.out x3_1 p148 q148
       cases e148
       try (replace hx148_0 := (HB.out.cell (World.block_lt_of_cell? w _ hx148_0)).trans hx148_0)
       have HR148_0 := Aside0.mk hi148_0
       have HC148_0 := Aside0.mk hl148_0
       clear hi148_0 hl148_0
       replace p148 := eq_true p148
       replace q148 := eq_true q148
       go_wp2
       go_ret
       exact ⟨by first | rfl | (simp [errW_none, errW_some] <;> rfl) | (simp [*, errW_none, errW_some] <;> rfl), bel HB.out⟩
      ·rw [if_neg c9] at H
       have c9b0 : decide (40 < ((rd_L1 l0_1 x3_1).length : Int)) = false := decide_eq_false c9
       have c9b1 : decide (40 < (rd_L1 l0_1 x3_1).length) = false := decide_eq_false (by omega)
       clear c9
       have H' := Aside0.mk H
       clear H
       have hcz11_0 : wr.cell? ⟨gb147, 0, none⟩ = some (.int .i64 a0_0) := (blk_cell BK147.out 0).trans rfl
       have hcz11_1 : wr.cell? ⟨gb147, 1, none⟩ = some (.slice A0_1 l0_1.length c0_1) := (blk_cell BK147.out 1).trans rfl
       have hfz11_0 := blk_frozen BK147.out 0
       have hfz11_1 := blk_frozen BK147.out 1
       have p148 : 0 ≤ (x3_1 : Int) := of_decide_eq_true (by assumption)
       have q148 : x3_1 < (l0_1.length : Int) := of_decide_eq_true (by assumption)
       obtain ⟨ad148, A148_0, c148_0, e148, hx148_0, hl148_0, hi148_0⟩ := at_L1 HR0_1.out x3_1 p148 q148
       cases e148
       try (replace hx148_0 := (HB.out.cell (World.block_lt_of_cell? w _ hx148_0)).trans hx148_0)
       have HR148_0 := Aside0.mk hi148_0
       have HC148_0 := Aside0.mk hl148_0
       clear hi148_0 hl148_0
       replace p148 := eq_true p148
       replace q148 := eq_true q148
       go_wp2
       go_roundg k1
       case measure => have := HK1.out;omega
       case rel => exact ⟨(wrap64 (x3_1 + 1)), (by first | rfl | (simp;done) | (simp [*];done)), H', ⟨by have := HK1.out;omega⟩, ⟨blkst BK147.out⟩, ⟨bel HB.out⟩⟩
     ·rw [if_neg c8] at H
      exact absurd H (by simp)
    ·rw [if_neg c7] at H
     have c7b0 : decide (x3_1 < (l0_1.length : Int)) = false := decide_eq_false c7
     clear c7
     obtain rfl := Option.some.inj H
     have hcz12_0 : wr.cell? ⟨gb147, 0, none⟩ = some (.int .i64 a0_0) := (blk_cell BK147.out 0).trans rfl
     have hcz12_1 : wr.cell? ⟨gb147, 1, none⟩ = some (.slice A0_1 l0_1.length c0_1) := (blk_cell BK147.out 1).trans rfl
     have hfz12_0 := blk_frozen BK147.out 0
     have hfz12_1 := blk_frozen BK147.out 1
     go_wp2
     go_ret
     exact ⟨by first | rfl | (simp [errW_none, errW_some] <;> rfl) | (simp [*, errW_none, errW_some] <;> rfl), bel HB.out⟩
def galoisref23_Place.l0 : Nat → List (List Int) → List Int → Int → Int → Option (Int)
 | 0, _, _, _, _ => none
 | k + 1, x0, x1, x5, x6 => if x5 < x6 then (if 0 ≤ (wrap64 (Int.tdiv (wrap64 (x5 + x6)) 2)) then (if (wrap64 (Int.tdiv (wrap64 (x5 + x6)) 2)) < (x0.length : Int) then ((galoisref22_Compare.f k (rd_L1 x0 (wrap64 (Int.tdiv (wrap64 (x5 + x6)) 2))) x1).bind fun t150 => (if t150 < 0 then (galoisref23_Place.l0 k x0 x1 (wrap64 ((wrap64 (Int.tdiv (wrap64 (x5 + x6)) 2)) + 1)) x6) else (galoisref23_Place.l0 k x0 x1 x5 (wrap64 (Int.tdiv (wrap64 (x5 + x6)) 2))))) else (none)) else (none)) else (some x5)
def galoisref23_Place.f (k : Nat) (l0 : List (List Int)) (l1 : List Int) : Option (Int) := galoisref23_Place.l0 k l0 l1 0 (l0.length : Int)
theorem galoisref23_Place.mono_l : ∀ k, (∀ y0 y1 y2 y3, LeO (galoisref23_Place.l0 k y0 y1 y2 y3) (galoisref23_Place.l0 (k + 1) y0 y1 y2 y3))
 | 0 => fun _ _ _ _ r h => by simp [galoisref23_Place.l0] at h
 | k + 1 => by
  have ih0 := galoisref23_Place.mono_l k
  ·intro y0 y1 y2 y3
   unfold galoisref23_Place.l0
   repeat' first
   | (with_reducible exact ih0 _ _ _ _)
   | (with_reducible exact galoisref22_Compare.mono _ _ _)
   | (with_reducible exact LeO.refl _)
   | (with_reducible exact LeO.none _)
   | (with_reducible refine LeO.ite ?_ ?_)
   | (with_reducible refine LeO.bind ?_ (fun _ => ?_))
   | exact ih0 _ _ _ _
   | exact galoisref22_Compare.mono _ _ _
   | exact LeO.none _
   | refine LeO.ite ?_ ?_
   | refine LeO.bind ?_ (fun _ => ?_)
theorem galoisref23_Place.mono : ∀ a0 a1 k, LeO (galoisref23_Place.f k a0 a1) (galoisref23_Place.f (k + 1) a0 a1) := by
 intro a0 a1 k
 have ih0 := galoisref23_Place.mono_l k
 unfold galoisref23_Place.f
 repeat' first
   | (with_reducible exact ih0 _ _ _ _)
   | (with_reducible exact galoisref22_Compare.mono _ _ _)
   | (with_reducible exact LeO.refl _)
   | (with_reducible exact LeO.none _)
   | (with_reducible refine LeO.ite ?_ ?_)
   | (with_reducible refine LeO.bind ?_ (fun _ => ?_))
   | exact ih0 _ _ _ _
   | exact galoisref22_Compare.mono _ _ _
   | exact LeO.none _
   | refine LeO.ite ?_ ?_
   | refine LeO.bind ?_ (fun _ => ?_)
set_option maxHeartbeats 8000000 in
set_option maxRecDepth 100000 in
theorem galoisref23_Place.calls (k : Nat) (A0 : Option Addr) (c0 : Nat) (l0 : List (List Int)) (A1 : Option Addr) (c1 : Nat) (l1 : List Int) (r : Int) (w : World) (hr0 : Kd.C (Kd.slice 3 (Kd.int .i64)) w A0 l0.length l0) (hc0 : l0.length ≤ c0) (hr1 : Kd.C (Kd.int .i64) w A1 l1.length l1) (hc1 : l1.length ≤ c1) (h : galoisref23_Place.f k l0 l1 = some r) :
  Calls Tryz.prog 96 #[.slice A0 l0.length c0, .slice A1 l1.length c1] w fun e w' => e = .returned (.int .i64 r) ∧ Drawn0 w w' := by
 have HR0 := Aside0.mk hr0
 have HC0 := Aside0.mk hc0
 clear hr0 hc0
 have HR1 := Aside0.mk hr1
 have HC1 := Aside0.mk hc1
 clear hr1 hc1
 have H : (galoisref23_Place.l0 k l0 l1 0 (l0.length : Int)) = some r := h
 clear h
 have H' := Aside0.mk H
 clear H
 go_enter Tryz.func96, Tryz.ntmps96
 go_wp2
 go_loopg [5, 6] k (fun kq v5 v6 w' => ∃ (x5_1 : Int) (x6_1 : Int), v5 = .int .i64 x5_1 ∧ v6 = .int .i64 x6_1 ∧ Aside0 (galoisref23_Place.l0 kq l0 l1 x5_1 x6_1 = some r) ∧ Aside0 (kq ≤ k) ∧ Drawn0 w w')
 case atStart => exact ⟨(0), ((l0.length : Int)), (by first | rfl | (simp;done) | (simp [*];done)), (by first | rfl | (simp;done) | (simp [*];done)), H', ⟨Nat.le_refl _⟩, by repeat (first|exact Drawn0.refl _ | apply Drawn0.step)⟩
 case round =>
  clear H'
  try clear c1
  try clear p2
  obtain ⟨x5_1, x6_1, rfl, rfl, HA, HK1, ⟨m1, rfl⟩⟩ := hrel
  cases gk with
  | zero => exact absurd HA.out (by simp [galoisref23_Place.l0])
  | succ k1 =>
   have H := HA.out
   clear HA
   simp only [galoisref23_Place.l0] at H
   by_cases c3 : x5_1 < x6_1
   ·rw [if_pos c3] at H
    have c3b0 : decide (x5_1 < x6_1) = true := decide_eq_true c3
    clear c3
    obtain ⟨ji4, hji4⟩ : ∃ j_ : Int, (wrap64 (Int.tdiv (wrap64 (x5_1 + x6_1)) 2)) = j_ := ⟨_, rfl⟩
    replace H : (if 0 ≤ (ji4) then (if (ji4) < (l0.length : Int) then ((galoisref22_Compare.f k1 (rd_L1 l0 (ji4)) l1).bind fun t150 => (if t150 < 0 then (galoisref23_Place.l0 k1 l0 l1 (wrap64 ((ji4) + 1)) x6_1) else (galoisref23_Place.l0 k1 l0 l1 x5_1 ji4))) else (none)) else (none)) = some r := by first | (rw [hji4] at H;exact H) | (simp only [hji4] at H ⊢;exact H)
    have hji4w : (IntKind.i64.wrap (Int.tdiv (wrap64 (x5_1 + x6_1)) 2)) = ji4 := (i64_w _).trans hji4
    by_cases c5 : 0 ≤ (ji4)
    ·rw [if_pos c5] at H
     have c5b0 : decide (0 ≤ (ji4)) = true := decide_eq_true c5
     clear c5
     by_cases c6 : (ji4) < (l0.length : Int)
     ·rw [if_pos c6] at H
      have c6b0 : decide ((ji4) < (l0.length : Int)) = true := decide_eq_true c6
      clear c6
      replace H := Option.bind_eq_some_iff.mp H
      obtain ⟨t150, A70, H⟩ := H
      replace H : (if t150 < 0 then (galoisref23_Place.l0 k1 l0 l1 (wrap64 ((ji4) + 1)) x6_1) else (galoisref23_Place.l0 k1 l0 l1 x5_1 ji4)) = some r := H
      have A7 := Aside0.mk A70
      clear A70
      by_cases c8 : t150 < 0
      ·rw [if_pos c8] at H
       have c8b0 : decide (t150 < 0) = true := decide_eq_true c8
       clear c8
       have H' := Aside0.mk H
       clear H
       have p149 : 0 ≤ ((ji4) : Int) := of_decide_eq_true (by assumption)
       have q149 : (ji4) < (l0.length : Int) := of_decide_eq_true (by assumption)
       obtain ⟨ad149, A149_0, c149_0, e149, hx149_0, hl149_0, hi149_0⟩ := at_L1 HR0.out (ji4) p149 q149
       cases e149
       have HR149_0 := Aside0.mk hi149_0
       have HC149_0 := Aside0.mk hl149_0
       clear hi149_0 hl149_0
       replace p149 := eq_true p149
       replace q149 := eq_true q149
       go_wp2_with (first|((with_reducible refine gate_callee (f := 130) rfl ?_);refine goesL_ (some 22) rfl rfl Tryz.func130 (by kernel_rfl) rfl #[.slice A149_0 (rd_L1 l0 (ji4)).length c149_0, .slice A1 l1.length c1] rfl (by (try simp only [List.map_toArray, List.map_cons, List.map_nil]);first | done | (simp only [hji4];rfl) | rfl | (simp only [List.length_drop, List.length_take];rfl)) ?_;(with_reducible refine (galoisref22_Compare.calls k1 _ _ (rd_L1 l0 (ji4)) _ _ l1 t150 _ ?side1 ?side2 ?side3 ?side4 A7.out).mono ?_);(case side1 => exact Cst HR149_0.out);(case side2 => exact HC149_0.out);(case side3 => exact Cst HR1.out);(case side4 => exact HC1.out);rintro e w' ⟨rfl, ⟨nd, rfl⟩⟩;refine ⟨_, rfl, ?_⟩))
       go_roundg k1
       case measure => have := HK1.out;((try clear hji4w);(try clear hji4);omega)
       case rel => exact ⟨(wrap64 ((ji4) + 1)), (x6_1), (by first | rfl | (simp;done) | (simp only [← hji4] <;> (first|rfl | simp)) | (simp [*];done)), (by first | rfl | (simp;done) | (simp [*];done)), H', ⟨by have := HK1.out;((try clear hji4w);(try clear hji4);omega)⟩, by repeat (first|exact Drawn0.refl _ | apply Drawn0.step)⟩
      ·rw [if_neg c8] at H
       have c8b0 : decide (t150 < 0) = false := decide_eq_false c8
       clear c8
       have H' := Aside0.mk H
       clear H
       have p149 : 0 ≤ ((ji4) : Int) := of_decide_eq_true (by assumption)
       have q149 : (ji4) < (l0.length : Int) := of_decide_eq_true (by assumption)
       obtain ⟨ad149, A149_0, c149_0, e149, hx149_0, hl149_0, hi149_0⟩ := at_L1 HR0.out (ji4) p149 q149
       cases e149
       have HR149_0 := Aside0.mk hi149_0
       have HC149_0 := Aside0.mk hl149_0
       clear hi149_0 hl149_0
       replace p149 := eq_true p149
       replace q149 := eq_true q149
       go_wp2_with (first|((with_reducible refine gate_callee (f := 130) rfl ?_);refine goesL_ (some 22) rfl rfl Tryz.func130 (by kernel_rfl) rfl #[.slice A149_0 (rd_L1 l0 (ji4)).length c149_0, .slice A1 l1.length c1] rfl (by (try simp only [List.map_toArray, List.map_cons, List.map_nil]);first | done | (simp only [hji4];rfl) | rfl | (simp only [List.length_drop, List.length_take];rfl)) ?_;(with_reducible refine (galoisref22_Compare.calls k1 _ _ (rd_L1 l0 (ji4)) _ _ l1 t150 _ ?side1 ?side2 ?side3 ?side4 A7.out).mono ?_);(case side1 => exact Cst HR149_0.out);(case side2 => exact HC149_0.out);(case side3 => exact Cst HR1.out);(case side4 => exact HC1.out);rintro e w' ⟨rfl, ⟨nd, rfl⟩⟩;refine ⟨_, rfl, ?_⟩))
       go_roundg k1
       case measure => have := HK1.out;((try clear hji4w);(try clear hji4);omega)
       case rel => exact ⟨(x5_1), (ji4), (by first | rfl | (simp;done) | (simp [*];done)), (by first | rfl | (simp;done) | (simp only [← hji4] <;> (first|rfl | simp)) | (simp [*];done)), H', ⟨by have := HK1.out;((try clear hji4w);(try clear hji4);omega)⟩, by repeat (first|exact Drawn0.refl _ | apply Drawn0.step)⟩
     ·rw [if_neg c6] at H
      exact absurd H (by simp)
    ·rw [if_neg c5] at H
     exact absurd H (by simp)
   ·rw [if_neg c3] at H
    have c3b0 : decide (x5_1 < x6_1) = false := decide_eq_false c3
    clear c3
    obtain rfl := Option.some.inj H
    go_wp2
    go_ret
    exact ⟨by first | rfl | (simp;done) | (simp [*];done), by repeat (first|exact Drawn0.refl _ | apply Drawn0.step)⟩
def galoisref23_Has.f (k : Nat) (l0 : List (List Int)) (l1 : List Int) : Option (Bool) := (galoisref23_Place.f k l0 l1).bind fun t151 => (if t151 < (l0.length : Int) then (if 0 ≤ t151 then ((galoisref22_Same.f k (rd_L1 l0 t151) l1).bind fun t153 => (some t153)) else (none)) else (some false))
theorem galoisref23_Has.mono : ∀ a0 a1 k, LeO (galoisref23_Has.f k a0 a1) (galoisref23_Has.f (k + 1) a0 a1) := by
 intro a0 a1 k
 unfold galoisref23_Has.f
 repeat' first
   | (with_reducible exact galoisref22_Same.mono _ _ _)
   | (with_reducible exact galoisref23_Place.mono _ _ _)
   | (with_reducible exact LeO.refl _)
   | (with_reducible exact LeO.none _)
   | (with_reducible refine LeO.ite ?_ ?_)
   | (with_reducible refine LeO.bind ?_ (fun _ => ?_))
   | exact galoisref22_Same.mono _ _ _
   | exact galoisref23_Place.mono _ _ _
   | exact LeO.none _
   | refine LeO.ite ?_ ?_
   | refine LeO.bind ?_ (fun _ => ?_)
set_option maxHeartbeats 8000000 in
set_option maxRecDepth 100000 in
theorem galoisref23_Has.calls (k : Nat) (A0 : Option Addr) (c0 : Nat) (l0 : List (List Int)) (A1 : Option Addr) (c1 : Nat) (l1 : List Int) (r : Bool) (w : World) (hr0 : Kd.C (Kd.slice 3 (Kd.int .i64)) w A0 l0.length l0) (hc0 : l0.length ≤ c0) (hr1 : Kd.C (Kd.int .i64) w A1 l1.length l1) (hc1 : l1.length ≤ c1) (h : galoisref23_Has.f k l0 l1 = some r) :
  Calls Tryz.prog 55 #[.slice A0 l0.length c0, .slice A1 l1.length c1] w fun e w' => e = .returned (.bool r) ∧ Drawn0 w w' := by
 have HR0 := Aside0.mk hr0
 have HC0 := Aside0.mk hc0
 clear hr0 hc0
 have HR1 := Aside0.mk hr1
 have HC1 := Aside0.mk hc1
 clear hr1 hc1
 have H : ((galoisref23_Place.f k l0 l1).bind fun t151 => (if t151 < (l0.length : Int) then (if 0 ≤ t151 then ((galoisref22_Same.f k (rd_L1 l0 t151) l1).bind fun t153 => (some t153)) else (none)) else (some false))) = some r := h
 clear h
 replace H := Option.bind_eq_some_iff.mp H
 obtain ⟨t151, A30, H⟩ := H
 replace H : (if t151 < (l0.length : Int) then (if 0 ≤ t151 then ((galoisref22_Same.f k (rd_L1 l0 t151) l1).bind fun t153 => (some t153)) else (none)) else (some false)) = some r := H
 have A3 := Aside0.mk A30
 clear A30
 by_cases c4 : t151 < (l0.length : Int)
 ·rw [if_pos c4] at H
  have c4b0 : decide (t151 < (l0.length : Int)) = true := decide_eq_true c4
  clear c4
  by_cases c5 : 0 ≤ t151
  ·rw [if_pos c5] at H
   have c5b0 : decide (0 ≤ t151) = true := decide_eq_true c5
   clear c5
   replace H := Option.bind_eq_some_iff.mp H
   obtain ⟨t153, A60, H⟩ := H
   replace H : (some t153) = some r := H
   have A6 := Aside0.mk A60
   clear A60
   obtain rfl := Option.some.inj H
   go_enter Tryz.func55, Tryz.ntmps55
   go_wp2_with (first|((with_reducible refine gate_callee (f := 96) rfl ?_);refine goesL_ (some 8) rfl rfl Tryz.func96 (by kernel_rfl) rfl #[.slice A0 l0.length c0, .slice A1 l1.length c1] rfl (by (try simp only [List.map_toArray, List.map_cons, List.map_nil]);first | done | rfl | (simp only [List.length_drop, List.length_take];rfl)) ?_;(with_reducible refine (galoisref23_Place.calls k _ _ l0 _ _ l1 t151 _ ?side1 ?side2 ?side3 ?side4 A3.out).mono ?_);(case side1 => exact Cst HR0.out);(case side2 => exact HC0.out);(case side3 => exact Cst HR1.out);(case side4 => exact HC1.out);rintro e w' ⟨rfl, ⟨nd, rfl⟩⟩;refine ⟨_, rfl, ?_⟩;have p152 : 0 ≤ (t151 : Int) := of_decide_eq_true (by assumption);have q152 : t151 < (l0.length : Int) := of_decide_eq_true (by assumption);obtain ⟨ad152, A152_0, c152_0, e152, hx152_0, hl152_0, hi152_0⟩ := at_L1 HR0.out t151 p152 q152;cases e152;have HR152_0 := Aside0.mk hi152_0;have HC152_0 := Aside0.mk hl152_0;clear hi152_0 hl152_0;replace p152 := eq_true p152;replace q152 := eq_true q152) | (go_at_call 17;(with_reducible refine (galoisref22_Same.calls k _ _ (rd_L1 l0 t151) _ _ l1 t153 _ ?side1 ?side2 ?side3 ?side4 A6.out).mono ?_);(case side1 => exact Cst HR152_0.out);(case side2 => exact HC152_0.out);(case side3 => exact Cst HR1.out);(case side4 => exact HC1.out);rintro e w' ⟨rfl, ⟨nd, rfl⟩⟩))
   go_ret
   exact ⟨by first | rfl | (simp;done) | (simp [*];done), by repeat (first|exact Drawn0.refl _ | apply Drawn0.step)⟩
  ·rw [if_neg c5] at H
   exact absurd H (by simp)
 ·rw [if_neg c4] at H
  have c4b0 : decide (t151 < (l0.length : Int)) = false := decide_eq_false c4
  clear c4
  obtain rfl := Option.some.inj H
  go_enter Tryz.func55, Tryz.ntmps55
  go_wp2_with (first|((with_reducible refine gate_callee (f := 96) rfl ?_);refine goesL_ (some 8) rfl rfl Tryz.func96 (by kernel_rfl) rfl #[.slice A0 l0.length c0, .slice A1 l1.length c1] rfl (by (try simp only [List.map_toArray, List.map_cons, List.map_nil]);first | done | rfl | (simp only [List.length_drop, List.length_take];rfl)) ?_;(with_reducible refine (galoisref23_Place.calls k _ _ l0 _ _ l1 t151 _ ?side1 ?side2 ?side3 ?side4 A3.out).mono ?_);(case side1 => exact Cst HR0.out);(case side2 => exact HC0.out);(case side3 => exact Cst HR1.out);(case side4 => exact HC1.out);rintro e w' ⟨rfl, ⟨nd, rfl⟩⟩;refine ⟨_, rfl, ?_⟩))
  go_ret
  exact ⟨by first | rfl | (simp;done) | (simp [*];done), by repeat (first|exact Drawn0.refl _ | apply Drawn0.step)⟩
def galoisref23_Equal.f (k : Nat) (a0_0 : Int) (l0_1 : List (List Int)) (a1_0 : Int) (l1_1 : List (List Int)) : Option (Bool) := if a0_0 = a1_0 then ((galoisref22_SamePerms.f k l0_1 l1_1).bind fun t156 => (some t156)) else (some false)
set_option maxHeartbeats 8000000 in
set_option maxRecDepth 100000 in
theorem galoisref23_Equal.calls (k : Nat) (a0_0 : Int) (A0_1 : Option Addr) (c0_1 : Nat) (l0_1 : List (List Int)) (a1_0 : Int) (A1_1 : Option Addr) (c1_1 : Nat) (l1_1 : List (List Int)) (r : Bool) (w : World) (hr0_1 : Kd.C (Kd.slice 3 (Kd.int .i64)) w A0_1 l0_1.length l0_1) (hc0_1 : l0_1.length ≤ c0_1) (hr1_1 : Kd.C (Kd.slice 3 (Kd.int .i64)) w A1_1 l1_1.length l1_1) (hc1_1 : l1_1.length ≤ c1_1) (h : galoisref23_Equal.f k a0_0 l0_1 a1_0 l1_1 = some r) :
  Calls Tryz.prog 13 #[.agg #[.int .i64 a0_0, .slice A0_1 l0_1.length c0_1], .agg #[.int .i64 a1_0, .slice A1_1 l1_1.length c1_1]] w fun e w' => e = .returned (.bool r) ∧ Below w.heap.size w w' := by
 have hu24 := Tryz.underlying24
 have HR0_1 := Aside0.mk hr0_1
 have HC0_1 := Aside0.mk hc0_1
 clear hr0_1 hc0_1
 have HR1_1 := Aside0.mk hr1_1
 have HC1_1 := Aside0.mk hc1_1
 clear hr1_1 hc1_1
 have HB := Aside0.mk (Below.refl w.heap.size w)
 have H : (if a0_0 = a1_0 then ((galoisref22_SamePerms.f k l0_1 l1_1).bind fun t156 => (some t156)) else (some false)) = some r := h
 clear h
 by_cases c3 : a0_0 = a1_0
 ·rw [if_pos c3] at H
  have c3b0 : (a0_0 == a1_0) = true := beq_iff_eq.mpr c3
  have c3b1 : (a0_0 != a1_0) = false := bne_eq_false_iff_eq.mpr c3
  clear c3
  replace H := Option.bind_eq_some_iff.mp H
  obtain ⟨t156, A40, H⟩ := H
  replace H : (some t156) = some r := H
  have A4 := Aside0.mk A40
  clear A40
  obtain rfl := Option.some.inj H
  go_enter Tryz.func13, Tryz.ntmps13
  go_wp2_with (first|((with_reducible refine gate_dst (N := 2) rfl ?_);refine box_event ?hg (N := 2) ?hd (cs := #[.int .i64 a0_0, .slice A0_1 l0_1.length c0_1]) (t := 24) ?hr ?_;(case hd => rfl);(case hg => rfl);(case hr => first | (go_simp;done) | (go_simp;rfl));intro gb154 hg w5 hbox hb;have n0_ := Aside0.mk (below_step (bel HB.out) hb);have n1_ := Aside0.mk (hbox);have n2_ := Aside0.mk ((by rw [hg];exact (below_size (bel HB.out)) : w.heap.size ≤ gb154));have n3_ := Aside0.mk ((by rw [hg];exact (below_size (bel HB.out)) : w.heap.size ≤ gb154));clear HB;have HB := n0_;have BK154 := n1_;have GW154 := n2_;have GE154 := n3_;clear n0_ n1_ n2_ n3_;clear hb hbox hg) | ((with_reducible refine gate_dst (N := 3) rfl ?_);refine box_event ?hg (N := 3) ?hd (cs := #[.int .i64 a1_0, .slice A1_1 l1_1.length c1_1]) (t := 24) ?hr ?_;(case hd => rfl);(case hg => rfl);(case hr => first | (go_simp;done) | (go_simp;rfl));intro gb155 hg w6 hbox hb;have n0_ := Aside0.mk (blk_below (blkst BK154.out) hb);have n1_ := Aside0.mk (below_step (bel HB.out) hb);have n2_ := Aside0.mk (hbox);have n3_ := Aside0.mk ((by rw [hg];exact (below_size (bel HB.out)) : w.heap.size ≤ gb155));have n4_ := Aside0.mk ((by rw [hg];exact (below_size (bel HB.out)) : w.heap.size ≤ gb155));have n5_ := Aside0.mk ((by rw [hg];exact Nat.ne_of_lt (blk_lt (g := gb154) (o := .cells #[.int .i64 a0_0, .slice A0_1 l0_1.length c0_1] 24 (0, 0)) (blkst BK154.out)) : gb154 ≠ gb155));have n6_ := Aside0.mk ((by rw [hg];exact Nat.ne_of_gt (blk_lt (g := gb154) (o := .cells #[.int .i64 a0_0, .slice A0_1 l0_1.length c0_1] 24 (0, 0)) (blkst BK154.out)) : gb155 ≠ gb154));clear BK154;clear HB;have BK154 := n0_;have HB := n1_;have BK155 := n2_;have GW155 := n3_;have GE155 := n4_;have NB154_155 := n5_;have NB155_154 := n6_;clear n0_ n1_ n2_ n3_ n4_ n5_ n6_;clear hb hbox hg;have hnb7 := NB154_155.out;have hnc7 := NB155_154.out;have hcz8_0 : w6.cell? ⟨gb154, 0, none⟩ = some (.int .i64 a0_0) := (blk_cell BK154.out 0).trans rfl;have hcz8_1 : w6.cell? ⟨gb154, 1, none⟩ = some (.slice A0_1 l0_1.length c0_1) := (blk_cell BK154.out 1).trans rfl;have hfz8_0 := blk_frozen BK154.out 0;have hfz8_1 := blk_frozen BK154.out 1;have hcz9_0 : w6.cell? ⟨gb155, 0, none⟩ = some (.int .i64 a1_0) := (blk_cell BK155.out 0).trans rfl;have hcz9_1 : w6.cell? ⟨gb155, 1, none⟩ = some (.slice A1_1 l1_1.length c1_1) := (blk_cell BK155.out 1).trans rfl;have hfz9_0 := blk_frozen BK155.out 0;have hfz9_1 := blk_frozen BK155.out 1) | (go_at_call 43;(with_reducible refine (galoisref22_SamePerms.calls k _ _ l0_1 _ _ l1_1 t156 _ ?side1 ?side2 ?side3 ?side4 A4.out).mono ?_);(case side1 => exact Cst (Kd.C_below HR0_1.out HB.out));(case side2 => exact HC0_1.out);(case side3 => exact Cst (Kd.C_below HR1_1.out HB.out));(case side4 => exact HC1_1.out);rintro e w' ⟨rfl, ⟨nd, rfl⟩⟩))
  go_ret
  exact ⟨by first | rfl | (simp [errW_none, errW_some] <;> rfl) | (simp [*, errW_none, errW_some] <;> rfl), bel HB.out⟩
 ·rw [if_neg c3] at H
  have c3b0 : (a0_0 == a1_0) = false := beq_eq_false_iff_ne.mpr c3
  have c3b1 : (a0_0 != a1_0) = true := bne_iff_ne.mpr c3
  obtain rfl := Option.some.inj H
  go_enter Tryz.func13, Tryz.ntmps13
  go_wp2_with (first|((with_reducible refine gate_dst (N := 2) rfl ?_);refine box_event ?hg (N := 2) ?hd (cs := #[.int .i64 a0_0, .slice A0_1 l0_1.length c0_1]) (t := 24) ?hr ?_;(case hd => rfl);(case hg => rfl);(case hr => first | (go_simp;done) | (go_simp;rfl));intro gb154 hg w10 hbox hb;have n0_ := Aside0.mk (below_step (bel HB.out) hb);have n1_ := Aside0.mk (hbox);have n2_ := Aside0.mk ((by rw [hg];exact (below_size (bel HB.out)) : w.heap.size ≤ gb154));have n3_ := Aside0.mk ((by rw [hg];exact (below_size (bel HB.out)) : w.heap.size ≤ gb154));clear HB;have HB := n0_;have BK154 := n1_;have GW154 := n2_;have GE154 := n3_;clear n0_ n1_ n2_ n3_;clear hb hbox hg) | ((with_reducible refine gate_dst (N := 3) rfl ?_);refine box_event ?hg (N := 3) ?hd (cs := #[.int .i64 a1_0, .slice A1_1 l1_1.length c1_1]) (t := 24) ?hr ?_;(case hd => rfl);(case hg => rfl);(case hr => first | (go_simp;done) | (go_simp;rfl));intro gb155 hg w11 hbox hb;have n0_ := Aside0.mk (blk_below (blkst BK154.out) hb);have n1_ := Aside0.mk (below_step (bel HB.out) hb);have n2_ := Aside0.mk (hbox);have n3_ := Aside0.mk ((by rw [hg];exact (below_size (bel HB.out)) : w.heap.size ≤ gb155));have n4_ := Aside0.mk ((by rw [hg];exact (below_size (bel HB.out)) : w.heap.size ≤ gb155));have n5_ := Aside0.mk ((by rw [hg];exact Nat.ne_of_lt (blk_lt (g := gb154) (o := .cells #[.int .i64 a0_0, .slice A0_1 l0_1.length c0_1] 24 (0, 0)) (blkst BK154.out)) : gb154 ≠ gb155));have n6_ := Aside0.mk ((by rw [hg];exact Nat.ne_of_gt (blk_lt (g := gb154) (o := .cells #[.int .i64 a0_0, .slice A0_1 l0_1.length c0_1] 24 (0, 0)) (blkst BK154.out)) : gb155 ≠ gb154));clear BK154;clear HB;have BK154 := n0_;have HB := n1_;have BK155 := n2_;have GW155 := n3_;have GE155 := n4_;have NB154_155 := n5_;have NB155_154 := n6_;clear n0_ n1_ n2_ n3_ n4_ n5_ n6_;clear hb hbox hg;have hnb12 := NB154_155.out;have hnc12 := NB155_154.out;have hcz13_0 : w11.cell? ⟨gb154, 0, none⟩ = some (.int .i64 a0_0) := (blk_cell BK154.out 0).trans rfl;have hcz13_1 : w11.cell? ⟨gb154, 1, none⟩ = some (.slice A0_1 l0_1.length c0_1) := (blk_cell BK154.out 1).trans rfl;have hfz13_0 := blk_frozen BK154.out 0;have hfz13_1 := blk_frozen BK154.out 1;have hcz14_0 : w11.cell? ⟨gb155, 0, none⟩ = some (.int .i64 a1_0) := (blk_cell BK155.out 0).trans rfl;have hcz14_1 : w11.cell? ⟨gb155, 1, none⟩ = some (.slice A1_1 l1_1.length c1_1) := (blk_cell BK155.out 1).trans rfl;have hfz14_0 := blk_frozen BK155.out 0;have hfz14_1 := blk_frozen BK155.out 1))
  go_ret
  exact ⟨by first | rfl | (simp [errW_none, errW_some] <;> rfl) | (simp [*, errW_none, errW_some] <;> rfl), bel HB.out⟩
end Go.Proofs.YtmbldnoepjmhhaaGreat.PRf
