-- Printed.
import Derived.Test.YtmbldnoepjmhhaaZPermgroupFormsMg0
import Derived.Test.YtmbldnoepjmhhaaZPermgroupFormsPBsx0
import Derived.Test.YtmbldnoepjmhhaaZPermgroupFormsPBsx1
namespace Go.Proofs.Ytmbldnoepjmhhaa.PBs
open Go.RowKit Go.Proofs.YtmbldnoepjmhhaaW.PrintWords Go.Proofs.YtmbldnoepjmhhaaW.PrintLast Go.Proofs.YtmbldnoepjmhhaaW.PrintMore
attribute [local go_sem] max2_int min2_int max_two min_two max_three min_three max_four min_four
set_option linter.unusedVariables false
set_option linter.unusedSimpArgs false
def permgroup_element.f (k : Nat) (l0 : List Int) (a1 : Int) : Option (Int) := (perm_Check.f k l0).bind fun t121 => (if t121 = 0 then (if (l0.length : Int) = a1 then (some t121) else (some 2)) else (some t121))
theorem permgroup_element.mono : ∀ a0 a1 k, LeO (permgroup_element.f k a0 a1) (permgroup_element.f (k + 1) a0 a1) := by
 intro a0 a1 k
 unfold permgroup_element.f
 repeat' first
   | (with_reducible exact perm_Check.mono _ _)
   | (with_reducible exact LeO.refl _)
   | (with_reducible exact LeO.none _)
   | (with_reducible refine LeO.ite ?_ ?_)
   | (with_reducible refine LeO.bind ?_ (fun _ => ?_))
   | exact perm_Check.mono _ _
   | exact LeO.none _
   | refine LeO.ite ?_ ?_
   | refine LeO.bind ?_ (fun _ => ?_)
set_option maxHeartbeats 8000000 in
set_option maxRecDepth 100000 in
theorem permgroup_element.calls (k : Nat) (A0 : Option Addr) (c0 : Nat) (l0 : List Int) (a1 : Int) (r : Int) (w : World) (hr0 : Kd.C (Kd.int .i64) w A0 l0.length l0) (hc0 : l0.length ≤ c0) (h : permgroup_element.f k l0 a1 = some r) :
  Calls Try.prog 91 #[.slice A0 l0.length c0, .int .i64 a1] w fun e w' => e = .returned (.int .i64 r) ∧ Drawn0 w w' := by
 have HR0 := Aside0.mk hr0
 have HC0 := Aside0.mk hc0
 clear hr0 hc0
 have H : ((perm_Check.f k l0).bind fun t121 => (if t121 = 0 then (if (l0.length : Int) = a1 then (some t121) else (some 2)) else (some t121))) = some r := h
 clear h
 replace H := Option.bind_eq_some_iff.mp H
 obtain ⟨t121, A30, H⟩ := H
 replace H : (if t121 = 0 then (if (l0.length : Int) = a1 then (some t121) else (some 2)) else (some t121)) = some r := H
 have A3 := Aside0.mk A30
 clear A30
 by_cases c4 : t121 = 0
 ·rw [if_pos c4] at H
  have c4b0 : (t121 == 0) = true := beq_iff_eq.mpr c4
  have c4b1 : (t121 != 0) = false := bne_eq_false_iff_eq.mpr c4
  clear c4
  by_cases c5 : (l0.length : Int) = a1
  ·rw [if_pos c5] at H
   have c5b0 : ((l0.length : Int) == a1) = true := beq_iff_eq.mpr c5
   have c5b1 : ((l0.length : Int) != a1) = false := bne_eq_false_iff_eq.mpr c5
   clear c5
   obtain rfl := Option.some.inj H
   go_enter Try.func91, Try.ntmps91
   go_wp2_with (first|((with_reducible refine gate_callee (f := 116) rfl ?_);refine goesL_ (some 7) rfl rfl Try.func116 (by kernel_rfl) rfl #[.slice A0 l0.length c0] rfl (by (try simp only [List.map_toArray, List.map_cons, List.map_nil]);first | done | rfl | (simp only [List.length_drop, List.length_take];rfl)) ?_;(with_reducible refine (perm_Check.calls k _ _ l0 t121 _ ?side1 ?side2 A3.out).mono ?_);(case side1 => exact Cst HR0.out);(case side2 => exact HC0.out);rintro e w' ⟨rfl, ⟨nd, rfl⟩⟩;refine ⟨_, rfl, ?_⟩))
   go_ret
   exact ⟨by first | rfl | (simp;done) | (simp [*];done), by repeat (first|exact Drawn0.refl _ | apply Drawn0.step)⟩
  ·rw [if_neg c5] at H
   have c5b0 : ((l0.length : Int) == a1) = false := beq_eq_false_iff_ne.mpr c5
   have c5b1 : ((l0.length : Int) != a1) = true := bne_iff_ne.mpr c5
   obtain rfl := Option.some.inj H
   go_enter Try.func91, Try.ntmps91
   go_wp2_with (first|((with_reducible refine gate_callee (f := 116) rfl ?_);refine goesL_ (some 7) rfl rfl Try.func116 (by kernel_rfl) rfl #[.slice A0 l0.length c0] rfl (by (try simp only [List.map_toArray, List.map_cons, List.map_nil]);first | done | rfl | (simp only [List.length_drop, List.length_take];rfl)) ?_;(with_reducible refine (perm_Check.calls k _ _ l0 t121 _ ?side1 ?side2 A3.out).mono ?_);(case side1 => exact Cst HR0.out);(case side2 => exact HC0.out);rintro e w' ⟨rfl, ⟨nd, rfl⟩⟩;refine ⟨_, rfl, ?_⟩))
   go_ret
   exact ⟨by first | rfl | (simp;done) | (simp [*];done), by repeat (first|exact Drawn0.refl _ | apply Drawn0.step)⟩
 ·rw [if_neg c4] at H
  have c4b0 : (t121 == 0) = false := beq_eq_false_iff_ne.mpr c4
  have c4b1 : (t121 != 0) = true := bne_iff_ne.mpr c4
  obtain rfl := Option.some.inj H
  go_enter Try.func91, Try.ntmps91
  go_wp2_with (first|((with_reducible refine gate_callee (f := 116) rfl ?_);refine goesL_ (some 7) rfl rfl Try.func116 (by kernel_rfl) rfl #[.slice A0 l0.length c0] rfl (by (try simp only [List.map_toArray, List.map_cons, List.map_nil]);first | done | rfl | (simp only [List.length_drop, List.length_take];rfl)) ?_;(with_reducible refine (perm_Check.calls k _ _ l0 t121 _ ?side1 ?side2 A3.out).mono ?_);(case side1 => exact Cst HR0.out);(case side2 => exact HC0.out);rintro e w' ⟨rfl, ⟨nd, rfl⟩⟩;refine ⟨_, rfl, ?_⟩))
  go_ret
  exact ⟨by first | rfl | (simp;done) | (simp [*];done), by repeat (first|exact Drawn0.refl _ | apply Drawn0.step)⟩
def permgroup_Check.l0 : Nat → List (List Int) → Int → Int → Int → List (List Int) → Option (Int)
 | 0, _, _, _, _, _ => none
 | k + 1, x17, x18, x19, x123000, x123001 => if x19 < x18 then (if 0 ≤ x19 then (if x19 < (x17.length : Int) then ((permgroup_element.f k (rd_L1 x17 x19) x123000).bind fun t124 => (if t124 = 0 then (permgroup_Check.l0 k x17 x18 (wrap64 (x19 + 1)) x123000 x123001) else (some t124))) else (none)) else (none)) else (some 0)
def permgroup_Check.f (k : Nat) (a0_0 : Int) (l0_1 : List (List Int)) : Option (Int) := if a0_0 < 0 then (some 3) else (if a0_0 > 20 then (some 4) else (if (l0_1.length : Int) > 32 then (some 5) else (permgroup_Check.l0 k l0_1 (l0_1.length : Int) 0 a0_0 l0_1)))
theorem permgroup_Check.mono_l : ∀ k, (∀ y0 y1 y2 y3 y4, LeO (permgroup_Check.l0 k y0 y1 y2 y3 y4) (permgroup_Check.l0 (k + 1) y0 y1 y2 y3 y4))
 | 0 => fun _ _ _ _ _ r h => by simp [permgroup_Check.l0] at h
 | k + 1 => by
  have ih0 := permgroup_Check.mono_l k
  ·intro y0 y1 y2 y3 y4
   unfold permgroup_Check.l0
   repeat' first
   | (with_reducible exact ih0 _ _ _ _ _)
   | (with_reducible exact permgroup_element.mono _ _ _)
   | (with_reducible exact LeO.refl _)
   | (with_reducible exact LeO.none _)
   | (with_reducible refine LeO.ite ?_ ?_)
   | (with_reducible refine LeO.bind ?_ (fun _ => ?_))
   | exact ih0 _ _ _ _ _
   | exact permgroup_element.mono _ _ _
   | exact LeO.none _
   | refine LeO.ite ?_ ?_
   | refine LeO.bind ?_ (fun _ => ?_)
theorem permgroup_Check.mono : ∀ a0 a1 k, LeO (permgroup_Check.f k a0 a1) (permgroup_Check.f (k + 1) a0 a1) := by
 intro a0 a1 k
 have ih0 := permgroup_Check.mono_l k
 unfold permgroup_Check.f
 repeat' first
   | (with_reducible exact ih0 _ _ _ _ _)
   | (with_reducible exact permgroup_element.mono _ _ _)
   | (with_reducible exact LeO.refl _)
   | (with_reducible exact LeO.none _)
   | (with_reducible refine LeO.ite ?_ ?_)
   | (with_reducible refine LeO.bind ?_ (fun _ => ?_))
   | exact ih0 _ _ _ _ _
   | exact permgroup_element.mono _ _ _
   | exact LeO.none _
   | refine LeO.ite ?_ ?_
   | refine LeO.bind ?_ (fun _ => ?_)
set_option maxHeartbeats 8000000 in
set_option maxRecDepth 100000 in
theorem permgroup_Check.calls (k : Nat) (a0_0 : Int) (A0_1 : Option Addr) (c0_1 : Nat) (l0_1 : List (List Int)) (r : Int) (w : World) (hr0_1 : Kd.C (Kd.slice 3 (Kd.int .i64)) w A0_1 l0_1.length l0_1) (hc0_1 : l0_1.length ≤ c0_1) (h : permgroup_Check.f k a0_0 l0_1 = some r) :
  Calls Try.prog 33 #[.agg #[.int .i64 a0_0, .slice A0_1 l0_1.length c0_1]] w fun e w' => e = .returned (.int .i64 r) ∧ Below w.heap.size w w' := by
 have hu37 := Try.underlying37
 have HR0_1 := Aside0.mk hr0_1
 have HC0_1 := Aside0.mk hc0_1
 clear hr0_1 hc0_1
 have HB := Aside0.mk (Below.refl w.heap.size w)
 have H : (if a0_0 < 0 then (some 3) else (if a0_0 > 20 then (some 4) else (if (l0_1.length : Int) > 32 then (some 5) else (permgroup_Check.l0 k l0_1 (l0_1.length : Int) 0 a0_0 l0_1)))) = some r := h
 clear h
 by_cases c2 : a0_0 < 0
 ·rw [if_pos c2] at H
  have c2b0 : decide (a0_0 < 0) = true := decide_eq_true c2
  clear c2
  obtain rfl := Option.some.inj H
  go_enter Try.func33, Try.ntmps33
  go_wp2_with (first|((with_reducible refine gate_dst (N := 1) rfl ?_);refine box_event ?hg (N := 1) ?hd (cs := #[.int .i64 a0_0, .slice A0_1 l0_1.length c0_1]) (t := 37) ?hr ?_;(case hd => rfl);(case hg => rfl);(case hr => first | (go_simp;done) | (go_simp;rfl));intro gb122 hg w3 hbox hb;have n0_ := Aside0.mk (below_step (bel HB.out) hb);have n1_ := Aside0.mk (hbox);have n2_ := Aside0.mk ((by rw [hg];exact (below_size (bel HB.out)) : w.heap.size ≤ gb122));have n3_ := Aside0.mk ((by rw [hg];exact (below_size (bel HB.out)) : w.heap.size ≤ gb122));clear HB;have HB := n0_;have BK122 := n1_;have GW122 := n2_;have GE122 := n3_;clear n0_ n1_ n2_ n3_;clear hb hbox hg;have hcz4_0 : w3.cell? ⟨gb122, 0, none⟩ = some (.int .i64 a0_0) := (blk_cell BK122.out 0).trans rfl;have hcz4_1 : w3.cell? ⟨gb122, 1, none⟩ = some (.slice A0_1 l0_1.length c0_1) := (blk_cell BK122.out 1).trans rfl;have hfz4_0 := blk_frozen BK122.out 0;have hfz4_1 := blk_frozen BK122.out 1))
  go_ret
  exact ⟨by first | rfl | (simp [errW_none, errW_some] <;> rfl) | (simp [*, errW_none, errW_some] <;> rfl), bel HB.out⟩
 ·rw [if_neg c2] at H
  have c2b0 : decide (a0_0 < 0) = false := decide_eq_false c2
  clear c2
  by_cases c5 : a0_0 > 20
  ·rw [if_pos c5] at H
   have c5b0 : decide (20 < a0_0) = true := decide_eq_true c5
   clear c5
   obtain rfl := Option.some.inj H
   go_enter Try.func33, Try.ntmps33
   go_wp2_with (first|((with_reducible refine gate_dst (N := 1) rfl ?_);refine box_event ?hg (N := 1) ?hd (cs := #[.int .i64 a0_0, .slice A0_1 l0_1.length c0_1]) (t := 37) ?hr ?_;(case hd => rfl);(case hg => rfl);(case hr => first | (go_simp;done) | (go_simp;rfl));intro gb122 hg w6 hbox hb;have n0_ := Aside0.mk (below_step (bel HB.out) hb);have n1_ := Aside0.mk (hbox);have n2_ := Aside0.mk ((by rw [hg];exact (below_size (bel HB.out)) : w.heap.size ≤ gb122));have n3_ := Aside0.mk ((by rw [hg];exact (below_size (bel HB.out)) : w.heap.size ≤ gb122));clear HB;have HB := n0_;have BK122 := n1_;have GW122 := n2_;have GE122 := n3_;clear n0_ n1_ n2_ n3_;clear hb hbox hg;have hcz7_0 : w6.cell? ⟨gb122, 0, none⟩ = some (.int .i64 a0_0) := (blk_cell BK122.out 0).trans rfl;have hcz7_1 : w6.cell? ⟨gb122, 1, none⟩ = some (.slice A0_1 l0_1.length c0_1) := (blk_cell BK122.out 1).trans rfl;have hfz7_0 := blk_frozen BK122.out 0;have hfz7_1 := blk_frozen BK122.out 1))
   go_ret
   exact ⟨by first | rfl | (simp [errW_none, errW_some] <;> rfl) | (simp [*, errW_none, errW_some] <;> rfl), bel HB.out⟩
  ·rw [if_neg c5] at H
   have c5b0 : decide (20 < a0_0) = false := decide_eq_false c5
   clear c5
   by_cases c8 : (l0_1.length : Int) > 32
   ·rw [if_pos c8] at H
    have c8b0 : decide (32 < (l0_1.length : Int)) = true := decide_eq_true c8
    have c8b1 : decide (32 < l0_1.length) = true := decide_eq_true (by omega)
    clear c8
    obtain rfl := Option.some.inj H
    go_enter Try.func33, Try.ntmps33
    go_wp2_with (first|((with_reducible refine gate_dst (N := 1) rfl ?_);refine box_event ?hg (N := 1) ?hd (cs := #[.int .i64 a0_0, .slice A0_1 l0_1.length c0_1]) (t := 37) ?hr ?_;(case hd => rfl);(case hg => rfl);(case hr => first | (go_simp;done) | (go_simp;rfl));intro gb122 hg w9 hbox hb;have n0_ := Aside0.mk (below_step (bel HB.out) hb);have n1_ := Aside0.mk (hbox);have n2_ := Aside0.mk ((by rw [hg];exact (below_size (bel HB.out)) : w.heap.size ≤ gb122));have n3_ := Aside0.mk ((by rw [hg];exact (below_size (bel HB.out)) : w.heap.size ≤ gb122));clear HB;have HB := n0_;have BK122 := n1_;have GW122 := n2_;have GE122 := n3_;clear n0_ n1_ n2_ n3_;clear hb hbox hg;have hcz10_0 : w9.cell? ⟨gb122, 0, none⟩ = some (.int .i64 a0_0) := (blk_cell BK122.out 0).trans rfl;have hcz10_1 : w9.cell? ⟨gb122, 1, none⟩ = some (.slice A0_1 l0_1.length c0_1) := (blk_cell BK122.out 1).trans rfl;have hfz10_0 := blk_frozen BK122.out 0;have hfz10_1 := blk_frozen BK122.out 1))
    go_ret
    exact ⟨by first | rfl | (simp [errW_none, errW_some] <;> rfl) | (simp [*, errW_none, errW_some] <;> rfl), bel HB.out⟩
   ·rw [if_neg c8] at H
    have c8b0 : decide (32 < (l0_1.length : Int)) = false := decide_eq_false c8
    have c8b1 : decide (32 < l0_1.length) = false := decide_eq_false (by omega)
    clear c8
    have H' := Aside0.mk H
    clear H
    go_enter Try.func33, Try.ntmps33
    go_wp2_with (first|((with_reducible refine gate_dst (N := 1) rfl ?_);refine box_event ?hg (N := 1) ?hd (cs := #[.int .i64 a0_0, .slice A0_1 l0_1.length c0_1]) (t := 37) ?hr ?_;(case hd => rfl);(case hg => rfl);(case hr => first | (go_simp;done) | (go_simp;rfl));intro gb122 hg w11 hbox hb;have n0_ := Aside0.mk (below_step (bel HB.out) hb);have n1_ := Aside0.mk (hbox);have n2_ := Aside0.mk ((by rw [hg];exact (below_size (bel HB.out)) : w.heap.size ≤ gb122));have n3_ := Aside0.mk ((by rw [hg];exact (below_size (bel HB.out)) : w.heap.size ≤ gb122));clear HB;have HB := n0_;have BK122 := n1_;have GW122 := n2_;have GE122 := n3_;clear n0_ n1_ n2_ n3_;clear hb hbox hg;have hcz12_0 : w11.cell? ⟨gb122, 0, none⟩ = some (.int .i64 a0_0) := (blk_cell BK122.out 0).trans rfl;have hcz12_1 : w11.cell? ⟨gb122, 1, none⟩ = some (.slice A0_1 l0_1.length c0_1) := (blk_cell BK122.out 1).trans rfl;have hfz12_0 := blk_frozen BK122.out 0;have hfz12_1 := blk_frozen BK122.out 1))
    go_loopg [19] k (fun kq v19 w' => ∃ (x19_1 : Int), v19 = .int .i64 x19_1 ∧ Aside0 (permgroup_Check.l0 kq l0_1 (l0_1.length : Int) x19_1 a0_0 l0_1 = some r) ∧ Aside0 (kq ≤ k) ∧ Aside0 (w'.heap[gb122]? = some (.cells #[.int .i64 a0_0, (.slice A0_1 l0_1.length c0_1)] 37 (0, 0))) ∧ Aside0 (Below w.heap.size w w'))
    case atStart => exact ⟨(0), (by first | rfl | (simp;done) | (simp [*];done)), H', ⟨Nat.le_refl _⟩, ⟨blkst BK122.out⟩, ⟨bel HB.out⟩⟩
    case round =>
     clear H'
     try clear c2
     try clear c2b0
     try clear p2
     try clear c3
     try clear c5
     try clear c5b0
     try clear c8
     try clear c8b0
     try clear c8b1
     try clear hcz10_0
     try clear hcz10_1
     try clear hcz12_0
     try clear hcz12_1
     try clear hcz4_0
     try clear hcz4_1
     try clear hcz7_0
     try clear hcz7_1
     try clear hfz10_0
     try clear hfz10_1
     try clear hfz12_0
     try clear hfz12_1
     try clear hfz4_0
     try clear hfz4_1
     try clear hfz7_0
     try clear hfz7_1
     obtain ⟨x19_1, rfl, HA, HK1, BK122, HB⟩ := hrel
     cases gk with
     | zero => exact absurd HA.out (by simp [permgroup_Check.l0])
     | succ k1 =>
      have H := HA.out
      clear HA
      simp only [permgroup_Check.l0] at H
      by_cases c13 : x19_1 < (l0_1.length : Int)
      ·rw [if_pos c13] at H
       have c13b0 : decide (x19_1 < (l0_1.length : Int)) = true := decide_eq_true c13
       clear c13
       by_cases c14 : 0 ≤ x19_1
       ·rw [if_pos c14] at H
        have c14b0 : decide (0 ≤ x19_1) = true := decide_eq_true c14
        clear c14
        by_cases c15 : x19_1 < (l0_1.length : Int)
        ·rw [if_pos c15] at H
         have c15b0 : decide (x19_1 < (l0_1.length : Int)) = true := decide_eq_true c15
         clear c15
         replace H := Option.bind_eq_some_iff.mp H
         obtain ⟨t124, A160, H⟩ := H
         replace H : (if t124 = 0 then (permgroup_Check.l0 k1 l0_1 (l0_1.length : Int) (wrap64 (x19_1 + 1)) a0_0 l0_1) else (some t124)) = some r := H
         have A16 := Aside0.mk A160
         clear A160
         by_cases c17 : t124 = 0
         ·rw [if_pos c17] at H
          have c17b0 : (t124 == 0) = true := beq_iff_eq.mpr c17
          have c17b1 : (t124 != 0) = false := bne_eq_false_iff_eq.mpr c17
          clear c17
          have H' := Aside0.mk H
          clear H
          have p123 : 0 ≤ (x19_1 : Int) := of_decide_eq_true (by assumption)
          have q123 : x19_1 < (l0_1.length : Int) := of_decide_eq_true (by assumption)
          obtain ⟨ad123, A123_0, c123_0, e123, hx123_0, hl123_0, hi123_0⟩ := at_L1 HR0_1.out x19_1 p123 q123
          cases e123
          try (replace hx123_0 := (HB.out.cell (World.block_lt_of_cell? w _ hx123_0)).trans hx123_0)
          have HR123_0 := Aside0.mk hi123_0
          have HC123_0 := Aside0.mk hl123_0
          clear hi123_0 hl123_0
          replace p123 := eq_true p123
          replace q123 := eq_true q123
          have hcz18_0 : wr.cell? ⟨gb122, 0, none⟩ = some (.int .i64 a0_0) := (blk_cell BK122.out 0).trans rfl
          have hcz18_1 : wr.cell? ⟨gb122, 1, none⟩ = some (.slice (some ad123) l0_1.length c0_1) := (blk_cell BK122.out 1).trans rfl
          have hfz18_0 := blk_frozen BK122.out 0
          have hfz18_1 := blk_frozen BK122.out 1
          go_wp2_with (first|((with_reducible refine gate_callee (f := 91) rfl ?_);refine goesL_ (some 26) rfl rfl Try.func91 (by kernel_rfl) rfl #[.slice A123_0 (rd_L1 l0_1 x19_1).length c123_0, .int .i64 a0_0] rfl (by (try simp only [List.map_toArray, List.map_cons, List.map_nil]);first | done | rfl | (simp only [List.length_drop, List.length_take];rfl)) ?_;(with_reducible refine (permgroup_element.calls k1 _ _ (rd_L1 l0_1 x19_1) a0_0 t124 _ ?side1 ?side2 A16.out).mono ?_);(case side1 => exact Cst (Kd.C_below HR123_0.out HB.out));(case side2 => exact HC123_0.out);rintro e w' ⟨rfl, ⟨nd, rfl⟩⟩;refine ⟨_, rfl, ?_⟩))
          go_roundg k1
          case measure => have := HK1.out;omega
          case rel => exact ⟨(wrap64 (x19_1 + 1)), (by first | rfl | (simp;done) | (simp [*];done)), H', ⟨by have := HK1.out;omega⟩, ⟨blkst BK122.out⟩, ⟨bel HB.out⟩⟩
         ·rw [if_neg c17] at H
          have c17b0 : (t124 == 0) = false := beq_eq_false_iff_ne.mpr c17
          have c17b1 : (t124 != 0) = true := bne_iff_ne.mpr c17
          obtain rfl := Option.some.inj H
          have p123 : 0 ≤ (x19_1 : Int) := of_decide_eq_true (by assumption)
          have q123 : x19_1 < (l0_1.length : Int) := of_decide_eq_true (by assumption)
          obtain ⟨ad123, A123_0, c123_0, e123, hx123_0, hl123_0, hi123_0⟩ := at_L1 HR0_1.out x19_1 p123 q123
          cases e123
          try (replace hx123_0 := (HB.out.cell (World.block_lt_of_cell? w _ hx123_0)).trans hx123_0)
          have HR123_0 := Aside0.mk hi123_0
          have HC123_0 := Aside0.mk hl123_0
          clear hi123_0 hl123_0
          replace p123 := eq_true p123
          replace q123 := eq_true q123
          have hcz19_0 : wr.cell? ⟨gb122, 0, none⟩ = some (.int .i64 a0_0) := (blk_cell BK122.out 0).trans rfl
          have hcz19_1 : wr.cell? ⟨gb122, 1, none⟩ = some (.slice (some ad123) l0_1.length c0_1) := (blk_cell BK122.out 1).trans rfl
          have hfz19_0 := blk_frozen BK122.out 0
          have hfz19_1 := blk_frozen BK122.out 1
          go_wp2_with (first|((with_reducible refine gate_callee (f := 91) rfl ?_);refine goesL_ (some 26) rfl rfl Try.func91 (by kernel_rfl) rfl #[.slice A123_0 (rd_L1 l0_1 x19_1).length c123_0, .int .i64 a0_0] rfl (by (try simp only [List.map_toArray, List.map_cons, List.map_nil]);first | done | rfl | (simp only [List.length_drop, List.length_take];rfl)) ?_;(with_reducible refine (permgroup_element.calls k1 _ _ (rd_L1 l0_1 x19_1) a0_0 t124 _ ?side1 ?side2 A16.out).mono ?_);(case side1 => exact Cst (Kd.C_below HR123_0.out HB.out));(case side2 => exact HC123_0.out);rintro e w' ⟨rfl, ⟨nd, rfl⟩⟩;refine ⟨_, rfl, ?_⟩))
          go_ret
          exact ⟨by first | rfl | (simp [errW_none, errW_some] <;> rfl) | (simp [*, errW_none, errW_some] <;> rfl), bel HB.out⟩
        ·rw [if_neg c15] at H
         exact absurd H (by simp)
       ·rw [if_neg c14] at H
        exact absurd H (by simp)
      ·rw [if_neg c13] at H
       have c13b0 : decide (x19_1 < (l0_1.length : Int)) = false := decide_eq_false c13
       clear c13
       obtain rfl := Option.some.inj H
       go_wp2
       go_ret
       exact ⟨by first | rfl | (simp [errW_none, errW_some] <;> rfl) | (simp [*, errW_none, errW_some] <;> rfl), bel HB.out⟩
def permgroup_with.f (k : Nat) (a0_0 : Int) (l0_1 : List (List Int)) (l1 : List Int) : Option (Int) := (permgroup_Check.f k a0_0 l0_1).bind fun t126 => (if t126 = 0 then ((permgroup_element.f k l1 a0_0).bind fun t127 => (some t127)) else (some t126))
theorem permgroup_with.mono : ∀ a0 a1 a2 k, LeO (permgroup_with.f k a0 a1 a2) (permgroup_with.f (k + 1) a0 a1 a2) := by
 intro a0 a1 a2 k
 unfold permgroup_with.f
 repeat' first
   | (with_reducible exact permgroup_Check.mono _ _ _)
   | (with_reducible exact permgroup_element.mono _ _ _)
   | (with_reducible exact LeO.refl _)
   | (with_reducible exact LeO.none _)
   | (with_reducible refine LeO.ite ?_ ?_)
   | (with_reducible refine LeO.bind ?_ (fun _ => ?_))
   | exact permgroup_Check.mono _ _ _
   | exact permgroup_element.mono _ _ _
   | exact LeO.none _
   | refine LeO.ite ?_ ?_
   | refine LeO.bind ?_ (fun _ => ?_)
set_option maxHeartbeats 8000000 in
set_option maxRecDepth 100000 in
theorem permgroup_with.calls (k : Nat) (a0_0 : Int) (A0_1 : Option Addr) (c0_1 : Nat) (l0_1 : List (List Int)) (A1 : Option Addr) (c1 : Nat) (l1 : List Int) (r : Int) (w : World) (hr0_1 : Kd.C (Kd.slice 3 (Kd.int .i64)) w A0_1 l0_1.length l0_1) (hc0_1 : l0_1.length ≤ c0_1) (hr1 : Kd.C (Kd.int .i64) w A1 l1.length l1) (hc1 : l1.length ≤ c1) (h : permgroup_with.f k a0_0 l0_1 l1 = some r) :
  Calls Try.prog 94 #[.agg #[.int .i64 a0_0, .slice A0_1 l0_1.length c0_1], .slice A1 l1.length c1] w fun e w' => e = .returned (.int .i64 r) ∧ Below w.heap.size w w' := by
 have hu37 := Try.underlying37
 have HR0_1 := Aside0.mk hr0_1
 have HC0_1 := Aside0.mk hc0_1
 clear hr0_1 hc0_1
 have HR1 := Aside0.mk hr1
 have HC1 := Aside0.mk hc1
 clear hr1 hc1
 have HB := Aside0.mk (Below.refl w.heap.size w)
 have H : ((permgroup_Check.f k a0_0 l0_1).bind fun t126 => (if t126 = 0 then ((permgroup_element.f k l1 a0_0).bind fun t127 => (some t127)) else (some t126))) = some r := h
 clear h
 replace H := Option.bind_eq_some_iff.mp H
 obtain ⟨t126, A30, H⟩ := H
 replace H : (if t126 = 0 then ((permgroup_element.f k l1 a0_0).bind fun t127 => (some t127)) else (some t126)) = some r := H
 have A3 := Aside0.mk A30
 clear A30
 by_cases c4 : t126 = 0
 ·rw [if_pos c4] at H
  have c4b0 : (t126 == 0) = true := beq_iff_eq.mpr c4
  have c4b1 : (t126 != 0) = false := bne_eq_false_iff_eq.mpr c4
  clear c4
  replace H := Option.bind_eq_some_iff.mp H
  obtain ⟨t127, A50, H⟩ := H
  replace H : (some t127) = some r := H
  have A5 := Aside0.mk A50
  clear A50
  obtain rfl := Option.some.inj H
  go_enter Try.func94, Try.ntmps94
  go_wp2_with (first|((with_reducible refine gate_dst (N := 2) rfl ?_);refine box_event ?hg (N := 2) ?hd (cs := #[.int .i64 a0_0, .slice A0_1 l0_1.length c0_1]) (t := 37) ?hr ?_;(case hd => rfl);(case hg => rfl);(case hr => first | (go_simp;done) | (go_simp;rfl));intro gb125 hg w6 hbox hb;have n0_ := Aside0.mk (below_step (bel HB.out) hb);have n1_ := Aside0.mk (hbox);have n2_ := Aside0.mk ((by rw [hg];exact (below_size (bel HB.out)) : w.heap.size ≤ gb125));have n3_ := Aside0.mk ((by rw [hg];exact (below_size (bel HB.out)) : w.heap.size ≤ gb125));clear HB;have HB := n0_;have BK125 := n1_;have GW125 := n2_;have GE125 := n3_;clear n0_ n1_ n2_ n3_;clear hb hbox hg;have hcz7_0 : w6.cell? ⟨gb125, 0, none⟩ = some (.int .i64 a0_0) := (blk_cell BK125.out 0).trans rfl;have hcz7_1 : w6.cell? ⟨gb125, 1, none⟩ = some (.slice A0_1 l0_1.length c0_1) := (blk_cell BK125.out 1).trans rfl;have hfz7_0 := blk_frozen BK125.out 0;have hfz7_1 := blk_frozen BK125.out 1) | ((with_reducible refine gate_callee (f := 33) rfl ?_);refine goesL_ (some 7) rfl rfl Try.func33 (by kernel_rfl) rfl #[.agg #[.int .i64 a0_0, .slice A0_1 l0_1.length c0_1]] rfl (by (try simp only [List.map_toArray, List.map_cons, List.map_nil]);first | done | rfl | (simp only [List.length_drop, List.length_take];rfl)) ?_;(with_reducible refine (permgroup_Check.calls k a0_0 _ _ l0_1 t126 _ ?side1 ?side2 A3.out).mono ?_);(case side1 => exact Cst (Kd.C_below HR0_1.out HB.out));(case side2 => exact HC0_1.out);rintro e w8 ⟨rfl, hb⟩;refine ⟨_, rfl, ?_⟩;have n0_ := Aside0.mk (blk_below (blkst BK125.out) hb);have n1_ := Aside0.mk (below_step (bel HB.out) hb);clear BK125;clear HB;have BK125 := n0_;have HB := n1_;clear n0_ n1_;(try clear hb);(try clear hb2);(try clear hk);(try clear hi);have hcz9_0 : w8.cell? ⟨gb125, 0, none⟩ = some (.int .i64 a0_0) := (blk_cell BK125.out 0).trans rfl;have hcz9_1 : w8.cell? ⟨gb125, 1, none⟩ = some (.slice A0_1 l0_1.length c0_1) := (blk_cell BK125.out 1).trans rfl;have hfz9_0 := blk_frozen BK125.out 0;have hfz9_1 := blk_frozen BK125.out 1) | ((with_reducible refine gate_callee (f := 91) rfl ?_);refine goesL_ (some 13) rfl rfl Try.func91 (by kernel_rfl) rfl #[.slice A1 l1.length c1, .int .i64 a0_0] rfl (by (try simp only [List.map_toArray, List.map_cons, List.map_nil]);first | done | rfl | (simp only [List.length_drop, List.length_take];rfl)) ?_;(with_reducible refine (permgroup_element.calls k _ _ l1 a0_0 t127 _ ?side1 ?side2 A5.out).mono ?_);(case side1 => exact Cst (Kd.C_below HR1.out HB.out));(case side2 => exact HC1.out);rintro e w' ⟨rfl, ⟨nd, rfl⟩⟩;refine ⟨_, rfl, ?_⟩))
  go_ret
  exact ⟨by first | rfl | (simp [errW_none, errW_some] <;> rfl) | (simp [*, errW_none, errW_some] <;> rfl), bel HB.out⟩
 ·rw [if_neg c4] at H
  have c4b0 : (t126 == 0) = false := beq_eq_false_iff_ne.mpr c4
  have c4b1 : (t126 != 0) = true := bne_iff_ne.mpr c4
  obtain rfl := Option.some.inj H
  go_enter Try.func94, Try.ntmps94
  go_wp2_with (first|((with_reducible refine gate_dst (N := 2) rfl ?_);refine box_event ?hg (N := 2) ?hd (cs := #[.int .i64 a0_0, .slice A0_1 l0_1.length c0_1]) (t := 37) ?hr ?_;(case hd => rfl);(case hg => rfl);(case hr => first | (go_simp;done) | (go_simp;rfl));intro gb125 hg w10 hbox hb;have n0_ := Aside0.mk (below_step (bel HB.out) hb);have n1_ := Aside0.mk (hbox);have n2_ := Aside0.mk ((by rw [hg];exact (below_size (bel HB.out)) : w.heap.size ≤ gb125));have n3_ := Aside0.mk ((by rw [hg];exact (below_size (bel HB.out)) : w.heap.size ≤ gb125));clear HB;have HB := n0_;have BK125 := n1_;have GW125 := n2_;have GE125 := n3_;clear n0_ n1_ n2_ n3_;clear hb hbox hg;have hcz11_0 : w10.cell? ⟨gb125, 0, none⟩ = some (.int .i64 a0_0) := (blk_cell BK125.out 0).trans rfl;have hcz11_1 : w10.cell? ⟨gb125, 1, none⟩ = some (.slice A0_1 l0_1.length c0_1) := (blk_cell BK125.out 1).trans rfl;have hfz11_0 := blk_frozen BK125.out 0;have hfz11_1 := blk_frozen BK125.out 1) | ((with_reducible refine gate_callee (f := 33) rfl ?_);refine goesL_ (some 7) rfl rfl Try.func33 (by kernel_rfl) rfl #[.agg #[.int .i64 a0_0, .slice A0_1 l0_1.length c0_1]] rfl (by (try simp only [List.map_toArray, List.map_cons, List.map_nil]);first | done | rfl | (simp only [List.length_drop, List.length_take];rfl)) ?_;(with_reducible refine (permgroup_Check.calls k a0_0 _ _ l0_1 t126 _ ?side1 ?side2 A3.out).mono ?_);(case side1 => exact Cst (Kd.C_below HR0_1.out HB.out));(case side2 => exact HC0_1.out);rintro e w12 ⟨rfl, hb⟩;refine ⟨_, rfl, ?_⟩;have n0_ := Aside0.mk (blk_below (blkst BK125.out) hb);have n1_ := Aside0.mk (below_step (bel HB.out) hb);clear BK125;clear HB;have BK125 := n0_;have HB := n1_;clear n0_ n1_;(try clear hb);(try clear hb2);(try clear hk);(try clear hi)))
  go_ret
  exact ⟨by first | rfl | (simp [errW_none, errW_some] <;> rfl) | (simp [*, errW_none, errW_some] <;> rfl), bel HB.out⟩
end Go.Proofs.Ytmbldnoepjmhhaa.PBs
