-- Printed by wip/tools/mk.py of this repo (the kit's print with turns made in memory).
import Derived.Test.YtaaaljifclecnaaZCosetLagrangeMg0
import Derived.Test.YtaaaljifclecnaaZCosetLagrangePLax0
import Derived.Test.YtaaaljifclecnaaZCosetLagrangePLax1
namespace Go.Proofs.Ytaaaljifclecnaa.PLa
open Go.RowKit Go.Proofs.YtaaaljifclecnaaW.PrintWords Go.Proofs.YtaaaljifclecnaaW.PrintLast Go.Proofs.YtaaaljifclecnaaW.PrintMore
attribute [local go_sem] max2_int min2_int max_two min_two max_three min_three max_four min_four   -- for this text's walks alone
set_option linter.unusedVariables false
set_option linter.unusedSimpArgs false
mutual
def galoislaw27_CosetLagrange.j0 : Nat → Bool → Int → List (List Int) → Int → List (List Int) → Option (Bool)
 | 0, _, _, _, _, _ => none
 | k + 1, x30, x139000, x139001, x140000, x140001 => if x30 = true then ((galoislaw27_awake.f).bind fun t143 => (some t143)) else ((galoislaw27_groups.f k x139000 x139001 x140000 x140001).bind fun bt144 => (if bt144.2.2 = 0 then ((coset_Index.f k x139000 x139001 x140000 x140001).bind fun bt151 => ((coset_Representatives.f k x139000 x139001 x140000 x140001).bind fun bt153 => ((coset_DoubleCosets.f k x139000 x139001 x140000 x140001 x140000 x140001).bind fun bt157 => (if bt151.2 = 0 then (if bt153.2 = 0 then (if bt157.2.2 = 0 then (if (wrap64 (bt151.1 * (bt144.2.1.length : Int))) = (bt144.1.length : Int) then (galoislaw27_CosetLagrange.j1 k bt144.1 bt144.2.1 bt151.1 bt153.1 bt157.2.1 ((bt153.1.length : Int) != bt151.1) x139000 x139001 x140000 x140001) else (galoislaw27_CosetLagrange.j1 k bt144.1 bt144.2.1 bt151.1 bt153.1 bt157.2.1 true x139000 x139001 x140000 x140001)) else (galoislaw27_CosetLagrange.j1 k bt144.1 bt144.2.1 bt151.1 bt153.1 bt157.2.1 true x139000 x139001 x140000 x140001)) else (galoislaw27_CosetLagrange.j1 k bt144.1 bt144.2.1 bt151.1 bt153.1 bt157.2.1 true x139000 x139001 x140000 x140001)) else (galoislaw27_CosetLagrange.j1 k bt144.1 bt144.2.1 bt151.1 bt153.1 bt157.2.1 true x139000 x139001 x140000 x140001))))) else (some true)))
def galoislaw27_CosetLagrange.j1 : Nat → List (List Int) → List (List Int) → Int → List (List Int) → List Int → Bool → Int → List (List Int) → Int → List (List Int) → Option (Bool)
 | 0, _, _, _, _, _, _, _, _, _, _ => none
 | k + 1, x5, x6, x8, x10, x13, x85, x139000, x139001, x140000, x140001 => if x85 = true then (some false) else (galoislaw27_CosetLagrange.l0 k x5 x6 x8 x10 x13 0 x139000 x139001 x140000 x140001)
def galoislaw27_CosetLagrange.l0 : Nat → List (List Int) → List (List Int) → Int → List (List Int) → List Int → Int → Int → List (List Int) → Int → List (List Int) → Option (Bool)
 | 0, _, _, _, _, _, _, _, _, _, _ => none
 | k + 1, x5, x6, x8, x10, x13, x15, x139000, x139001, x140000, x140001 => if x15 < x8 then (galoislaw27_CosetLagrange.l1 k x5 x6 x8 x10 x13 x15 0 x139000 x139001 x140000 x140001) else (galoislaw27_CosetLagrange.l2 k x5 x13 0 0)
def galoislaw27_CosetLagrange.l1 : Nat → List (List Int) → List (List Int) → Int → List (List Int) → List Int → Int → Int → Int → List (List Int) → Int → List (List Int) → Option (Bool)
 | 0, _, _, _, _, _, _, _, _, _, _, _ => none
 | k + 1, x5, x6, x8, x10, x13, x15, x16, x139000, x139001, x140000, x140001 => if x16 < (x6.length : Int) then (if 0 ≤ x15 then (if x15 < (x10.length : Int) then (if ((rd_L1 x10 x15).length : Int) = x139000 then ((galoisref22_Check.f k (rd_L1 x10 x15)).bind fun t166 => (galoislaw27_CosetLagrange.j4 k x5 x6 x8 x10 x13 x15 x16 (t166 != 0) x139000 x139001 x140000 x140001)) else (galoislaw27_CosetLagrange.j4 k x5 x6 x8 x10 x13 x15 x16 true x139000 x139001 x140000 x140001)) else (none)) else (none)) else (galoislaw27_CosetLagrange.l0 k x5 x6 x8 x10 x13 (wrap64 (x15 + 1)) x139000 x139001 x140000 x140001)
def galoislaw27_CosetLagrange.j4 : Nat → List (List Int) → List (List Int) → Int → List (List Int) → List Int → Int → Int → Bool → Int → List (List Int) → Int → List (List Int) → Option (Bool)
 | 0, _, _, _, _, _, _, _, _, _, _, _, _ => none
 | k + 1, x5, x6, x8, x10, x13, x15, x16, x112, x139000, x139001, x140000, x140001 => if x112 = true then (some false) else (if 0 ≤ x16 then (if x16 < (x6.length : Int) then (if 0 ≤ x15 then (if x15 < (x10.length : Int) then ((galoisref22_Mul.f k (rd_L1 x6 x16) (rd_L1 x10 x15)).bind fun t169 => ((coset_Find.f k x139000 x139001 x140000 x140001 t169).bind fun bt172 => (if bt172.2 = 0 then (galoislaw27_CosetLagrange.j5 k x5 x6 x8 x10 x13 x15 x16 (bt172.1 != x15) x139000 x139001 x140000 x140001) else (galoislaw27_CosetLagrange.j5 k x5 x6 x8 x10 x13 x15 x16 true x139000 x139001 x140000 x140001)))) else (none)) else (none)) else (none)) else (none))
def galoislaw27_CosetLagrange.j5 : Nat → List (List Int) → List (List Int) → Int → List (List Int) → List Int → Int → Int → Bool → Int → List (List Int) → Int → List (List Int) → Option (Bool)
 | 0, _, _, _, _, _, _, _, _, _, _, _, _ => none
 | k + 1, x5, x6, x8, x10, x13, x15, x16, x134, x139000, x139001, x140000, x140001 => if x134 = true then (some false) else (if (wrap64 ((x5.length : Int) * (x6.length : Int))) > 600 then (galoislaw27_CosetLagrange.l0 k x5 x6 x8 x10 x13 (wrap64 (x15 + 1)) x139000 x139001 x140000 x140001) else (galoislaw27_CosetLagrange.l1 k x5 x6 x8 x10 x13 x15 (wrap64 (x16 + 1)) x139000 x139001 x140000 x140001))
def galoislaw27_CosetLagrange.l2 : Nat → List (List Int) → List Int → Int → Int → Option (Bool)
 | 0, _, _, _, _ => none
 | k + 1, x5, x13, x19, x20 => if x20 < (x13.length : Int) then (if 0 ≤ x20 then (galoislaw27_CosetLagrange.l2 k x5 x13 (wrap64 (x19 + (rd x13 x20))) (wrap64 (x20 + 1))) else (none)) else (some (x19 == (x5.length : Int)))
end
def galoislaw27_CosetLagrange.f (k : Nat) (a0_0 : Int) (l0_1 : List (List Int)) (a1_0 : Int) (l1_1 : List (List Int)) : Option (Bool) := (galoislaw27_awake.f).bind fun t140 => (if t140 = true then ((galoislaw27_large.f k a0_0 l0_1).bind fun t141 => (if t141 = true then (galoislaw27_CosetLagrange.j0 k true a0_0 l0_1 a1_0 l1_1) else ((galoislaw27_large.f k a1_0 l1_1).bind fun t142 => (galoislaw27_CosetLagrange.j0 k t142 a0_0 l0_1 a1_0 l1_1)))) else (galoislaw27_CosetLagrange.j0 k true a0_0 l0_1 a1_0 l1_1))
def galoislaw27_CosetLagrange.T17 : Bool × List (List Nat × List Nat) := (true, [([], []), ([], []), ([0, 1], [0, 1]), ([2], [2]), ([3], [3]), ([], []), ([5], [5]), ([4, 6], [4, 6]), ([7], [7]), ([8], [8]), ([8], [8]), ([9, 10, 8], [8, 9, 10]), ([11, 8], [8, 11]), ([12, 8, 8], [8, 12]), ([13, 8], [8, 13]), ([8, 14], [8, 14])])
def galoislaw27_CosetLagrange.B17 : List Nat := [0, 0, 3, 7, 15, 0, 32, 127, 255, 511, 511, 2047, 4095, 8191, 16383, 32767]
theorem galoislaw27_CosetLagrange.tab17 : rtab .any (opsOf Try.f6 17) = galoislaw27_CosetLagrange.T17 := by kernel_rfl
theorem galoislaw27_CosetLagrange.bits17 : waitsOk galoislaw27_CosetLagrange.T17.2 galoislaw27_CosetLagrange.B17 = true := by kernel_rfl
def galoislaw27_CosetLagrange.T19 : Bool × List (List Nat × List Nat) := (true, [([], []), ([], []), ([], []), ([], []), ([2, 3], [2, 3]), ([4], [4]), ([], []), ([], []), ([6, 7], [6, 7]), ([8], [8]), ([5, 9], [5, 9]), ([0, 1, 10, 10], [0, 1, 10]), ([11], [11]), ([12], [12]), ([12], [12]), ([13, 11, 0, 1, 2, 3, 4, 5, 6, 7, 8, 9, 10, 11, 12, 13], [13]), ([14, 15, 0, 1, 2, 3, 4, 5, 6, 7, 8, 9, 10, 11, 12, 13, 14, 15], [14])])
def galoislaw27_CosetLagrange.B19 : List Nat := [0, 0, 0, 0, 12, 28, 0, 0, 192, 448, 1020, 2047, 4095, 8191, 8191, 16383, 65535]
theorem galoislaw27_CosetLagrange.tab19 : rtab .any (opsOf Try.f6 19) = galoislaw27_CosetLagrange.T19 := by kernel_rfl
theorem galoislaw27_CosetLagrange.bits19 : waitsOk galoislaw27_CosetLagrange.T19.2 galoislaw27_CosetLagrange.B19 = true := by kernel_rfl
set_option maxHeartbeats 8000000 in
set_option maxRecDepth 100000 in
theorem galoislaw27_CosetLagrange.calls (k : Nat) (a0_0 : Int) (A0_1 : Option Addr) (c0_1 : Nat) (l0_1 : List (List Int)) (a1_0 : Int) (A1_1 : Option Addr) (c1_1 : Nat) (l1_1 : List (List Int)) (r : Bool) (w : World) (hr0_1 : Kd.C (Kd.slice 3 (Kd.int .i64)) w A0_1 l0_1.length l0_1) (hc0_1 : l0_1.length ≤ c0_1) (hr1_1 : Kd.C (Kd.slice 3 (Kd.int .i64)) w A1_1 l1_1.length l1_1) (hc1_1 : l1_1.length ≤ c1_1) (h : galoislaw27_CosetLagrange.f k a0_0 l0_1 a1_0 l1_1 = some r) :
  Calls Try.prog 6 #[.agg #[.int .i64 a0_0, .slice A0_1 l0_1.length c0_1], .agg #[.int .i64 a1_0, .slice A1_1 l1_1.length c1_1]] w fun e w' => e = .returned (.bool r) ∧ Below w.heap.size w w' := by
 have hu24 := Try.underlying24
 have HR0_1 := Aside0.mk hr0_1
 have HC0_1 := Aside0.mk hc0_1
 clear hr0_1 hc0_1
 have HR1_1 := Aside0.mk hr1_1
 have HC1_1 := Aside0.mk hc1_1
 clear hr1_1 hc1_1
 have HB := Aside0.mk (Below.refl w.heap.size w)
 have H : ((galoislaw27_awake.f).bind fun t140 => (if t140 = true then ((galoislaw27_large.f k a0_0 l0_1).bind fun t141 => (if t141 = true then (galoislaw27_CosetLagrange.j0 k true a0_0 l0_1 a1_0 l1_1) else ((galoislaw27_large.f k a1_0 l1_1).bind fun t142 => (galoislaw27_CosetLagrange.j0 k t142 a0_0 l0_1 a1_0 l1_1)))) else (galoislaw27_CosetLagrange.j0 k true a0_0 l0_1 a1_0 l1_1))) = some r := h
 clear h
 have HC3 := Aside0.mk H
 clear H
 go_enter Try.func6, Try.ntmps6
 go_upto_region 1 with (first|((with_reducible refine gate_dst (N := 2) rfl ?_);(try (refine gate_guard (by rfl) ?_;dsimp only));refine box_event ?hg (N := 2) ?hd (cs := #[.int .i64 a0_0, .slice A0_1 l0_1.length c0_1]) (t := 24) ?hr ?_;(case hd => rfl);(case hg => rfl);(case hr => first | (go_simp;done) | (go_simp;rfl));intro gb138 hg w4 hbox hb;have n0_ := Aside0.mk (below_step (bel HB.out) hb);have n1_ := Aside0.mk (hbox);have n2_ := Aside0.mk ((by rw [hg];exact (below_size (bel HB.out)) : w.heap.size ≤ gb138));have n3_ := Aside0.mk ((by rw [hg];exact (below_size (bel HB.out)) : w.heap.size ≤ gb138));clear HB;have HB := n0_;have BK138 := n1_;have GW138 := n2_;have GE138 := n3_;clear n0_ n1_ n2_ n3_;clear hb hbox hg) | ((with_reducible refine gate_dst (N := 3) rfl ?_);(try (refine gate_guard (by rfl) ?_;dsimp only));refine box_event ?hg (N := 3) ?hd (cs := #[.int .i64 a1_0, .slice A1_1 l1_1.length c1_1]) (t := 24) ?hr ?_;(case hd => rfl);(case hg => rfl);(case hr => first | (go_simp;done) | (go_simp;rfl));intro gb139 hg w5 hbox hb;have n0_ := Aside0.mk (blk_below (g := gb138) (o := .cells #[.int .i64 a0_0, .slice A0_1 l0_1.length c0_1] 24 (0, 0)) (blkst BK138.out) hb);have n1_ := Aside0.mk (below_step (bel HB.out) hb);have n2_ := Aside0.mk (hbox);have n3_ := Aside0.mk ((by rw [hg];exact (below_size (bel HB.out)) : w.heap.size ≤ gb139));have n4_ := Aside0.mk ((by rw [hg];exact (below_size (bel HB.out)) : w.heap.size ≤ gb139));have n5_ := Aside0.mk ((by rw [hg];exact Nat.ne_of_lt (blk_lt (g := gb138) (o := .cells #[.int .i64 a0_0, .slice A0_1 l0_1.length c0_1] 24 (0, 0)) (blkst BK138.out)) : gb138 ≠ gb139));have n6_ := Aside0.mk ((by rw [hg];exact Nat.ne_of_gt (blk_lt (g := gb138) (o := .cells #[.int .i64 a0_0, .slice A0_1 l0_1.length c0_1] 24 (0, 0)) (blkst BK138.out)) : gb139 ≠ gb138));clear BK138;clear HB;have BK138 := n0_;have HB := n1_;have BK139 := n2_;have GW139 := n3_;have GE139 := n4_;have NB138_139 := n5_;have NB139_138 := n6_;clear n0_ n1_ n2_ n3_ n4_ n5_ n6_;clear hb hbox hg))
 (try simp only [Act.put, List.setIfInBounds_toArray, List.set_cons_zero, List.set_cons_succ])
 go_cut [30] (fun v30 wc => ∃ (kq : Nat) (x30_2 : Bool), v30 = .bool x30_2 ∧ Aside0 (galoislaw27_CosetLagrange.j0 kq x30_2 a0_0 l0_1 a1_0 l1_1 = some r) ∧ Aside0 (kq ≤ k) ∧ Aside0 (wc.heap[gb138]? = some (.cells #[.int .i64 a0_0, (.slice A0_1 l0_1.length c0_1)] 24 (0, 0))) ∧ Aside0 (wc.heap[gb139]? = some (.cells #[.int .i64 a1_0, (.slice A1_1 l1_1.length c1_1)] 24 (0, 0))) ∧ Aside0 (Below w.heap.size w wc))
 case first =>
  have H := HC3.out
  clear HC3
  replace H := Option.bind_eq_some_iff.mp H
  obtain ⟨t140, A60, H⟩ := H
  replace H : (if t140 = true then ((galoislaw27_large.f k a0_0 l0_1).bind fun t141 => (if t141 = true then (galoislaw27_CosetLagrange.j0 k true a0_0 l0_1 a1_0 l1_1) else ((galoislaw27_large.f k a1_0 l1_1).bind fun t142 => (galoislaw27_CosetLagrange.j0 k t142 a0_0 l0_1 a1_0 l1_1)))) else (galoislaw27_CosetLagrange.j0 k true a0_0 l0_1 a1_0 l1_1)) = some r := H
  have A6 := Aside0.mk A60
  clear A60
  by_cases c7 : t140 = true
  ·subst c7
   have H1 : ((galoislaw27_large.f k a0_0 l0_1).bind fun t141 => (if t141 = true then (galoislaw27_CosetLagrange.j0 k true a0_0 l0_1 a1_0 l1_1) else ((galoislaw27_large.f k a1_0 l1_1).bind fun t142 => (galoislaw27_CosetLagrange.j0 k t142 a0_0 l0_1 a1_0 l1_1)))) = some r := by rw [if_pos rfl] at H;exact H
   clear H
   have H := H1
   clear H1
   replace H := Option.bind_eq_some_iff.mp H
   obtain ⟨t141, A80, H⟩ := H
   replace H : (if t141 = true then (galoislaw27_CosetLagrange.j0 k true a0_0 l0_1 a1_0 l1_1) else ((galoislaw27_large.f k a1_0 l1_1).bind fun t142 => (galoislaw27_CosetLagrange.j0 k t142 a0_0 l0_1 a1_0 l1_1))) = some r := H
   have A8 := Aside0.mk A80
   clear A80
   by_cases c9 : t141 = true
   ·subst c9
    have H1 : (galoislaw27_CosetLagrange.j0 k true a0_0 l0_1 a1_0 l1_1) = some r := by rw [if_pos rfl] at H;exact H
    clear H
    have H := H1
    clear H1
    have H' := Aside0.mk H
    clear H
    as_aux_lemma =>
     go_wp2_with (first|((with_reducible refine gate_callee (f := 10) rfl ?_);refine goesL_ (some 21) rfl rfl Try.func10 (by kernel_rfl) rfl #[] rfl (by (try simp only [List.map_toArray, List.map_cons, List.map_nil]);first | done | rfl | (simp only [List.length_drop, List.length_take];rfl)) ?_;(with_reducible refine (galoislaw27_awake.calls  true _ A6.out).mono ?_);rintro e w10 ⟨rfl, hb⟩;refine ⟨_, rfl, ?_⟩;have n0_ := Aside0.mk (blk_below (g := gb138) (o := .cells #[.int .i64 a0_0, .slice A0_1 l0_1.length c0_1] 24 (0, 0)) (blkst BK138.out) hb);have n1_ := Aside0.mk (blk_below (g := gb139) (o := .cells #[.int .i64 a1_0, .slice A1_1 l1_1.length c1_1] 24 (0, 0)) (blkst BK139.out) hb);have n2_ := Aside0.mk (below_step (bel HB.out) hb);clear BK138;clear BK139;clear HB;have BK138 := n0_;have BK139 := n1_;have HB := n2_;clear n0_ n1_ n2_;(try clear hb);(try clear hb2);(try clear hk);(try clear hi);have hnb11 := NB138_139.out;have hnc11 := NB139_138.out;have hcz12_0 : w10.cell? ⟨gb138, 0, none⟩ = some (.int .i64 a0_0) := (blk_cell BK138.out 0).trans rfl;have hcz12_1 : w10.cell? ⟨gb138, 1, none⟩ = some (.slice A0_1 l0_1.length c0_1) := (blk_cell BK138.out 1).trans rfl;have hfz12_0 := blk_frozen BK138.out 0;have hfz12_1 := blk_frozen BK138.out 1) | (go_at_call 11;(with_reducible refine (galoislaw27_large.calls k a0_0 _ _ l0_1 true _ ?side1 ?side2 A8.out).mono ?_);(case side1 => exact Cst (Kd.C_below HR0_1.out HB.out));(case side2 => exact HC0_1.out);rintro e w13 ⟨rfl, hb⟩;have n0_ := Aside0.mk (blk_below (g := gb138) (o := .cells #[.int .i64 a0_0, .slice A0_1 l0_1.length c0_1] 24 (0, 0)) (blkst BK138.out) hb);have n1_ := Aside0.mk (blk_below (g := gb139) (o := .cells #[.int .i64 a1_0, .slice A1_1 l1_1.length c1_1] 24 (0, 0)) (blkst BK139.out) hb);have n2_ := Aside0.mk (below_step (bel HB.out) hb);clear BK138;clear BK139;clear HB;have BK138 := n0_;have BK139 := n1_;have HB := n2_;clear n0_ n1_ n2_;(try clear hb);(try clear hb2);(try clear hk);(try clear hi)))
     go_meet
     case rel => exact ⟨_, (true), (by first | rfl | (simp;done) | (simp [*];done)), H', ⟨by first | omega | exact Nat.le_refl _⟩, ⟨blkst BK138.out⟩, ⟨blkst BK139.out⟩, ⟨bel HB.out⟩⟩
   ·replace c9 := Bool.eq_false_iff.mpr c9
    subst c9
    have H1 : ((galoislaw27_large.f k a1_0 l1_1).bind fun t142 => (galoislaw27_CosetLagrange.j0 k t142 a0_0 l0_1 a1_0 l1_1)) = some r := by rw [if_neg (show ¬ (false = true) by decide)] at H;exact H
    clear H
    have H := H1
    clear H1
    replace H := Option.bind_eq_some_iff.mp H
    obtain ⟨t142, A140, H⟩ := H
    replace H : (galoislaw27_CosetLagrange.j0 k t142 a0_0 l0_1 a1_0 l1_1) = some r := H
    have A14 := Aside0.mk A140
    clear A140
    have H' := Aside0.mk H
    clear H
    as_aux_lemma =>
     go_wp2_with (first|((with_reducible refine gate_callee (f := 10) rfl ?_);refine goesL_ (some 21) rfl rfl Try.func10 (by kernel_rfl) rfl #[] rfl (by (try simp only [List.map_toArray, List.map_cons, List.map_nil]);first | done | rfl | (simp only [List.length_drop, List.length_take];rfl)) ?_;(with_reducible refine (galoislaw27_awake.calls  true _ A6.out).mono ?_);rintro e w15 ⟨rfl, hb⟩;refine ⟨_, rfl, ?_⟩;have n0_ := Aside0.mk (blk_below (g := gb138) (o := .cells #[.int .i64 a0_0, .slice A0_1 l0_1.length c0_1] 24 (0, 0)) (blkst BK138.out) hb);have n1_ := Aside0.mk (blk_below (g := gb139) (o := .cells #[.int .i64 a1_0, .slice A1_1 l1_1.length c1_1] 24 (0, 0)) (blkst BK139.out) hb);have n2_ := Aside0.mk (below_step (bel HB.out) hb);clear BK138;clear BK139;clear HB;have BK138 := n0_;have BK139 := n1_;have HB := n2_;clear n0_ n1_ n2_;(try clear hb);(try clear hb2);(try clear hk);(try clear hi);have hnb16 := NB138_139.out;have hnc16 := NB139_138.out;have hcz17_0 : w15.cell? ⟨gb138, 0, none⟩ = some (.int .i64 a0_0) := (blk_cell BK138.out 0).trans rfl;have hcz17_1 : w15.cell? ⟨gb138, 1, none⟩ = some (.slice A0_1 l0_1.length c0_1) := (blk_cell BK138.out 1).trans rfl;have hfz17_0 := blk_frozen BK138.out 0;have hfz17_1 := blk_frozen BK138.out 1) | (go_at_call 11;(with_reducible refine (galoislaw27_large.calls k a0_0 _ _ l0_1 false _ ?side1 ?side2 A8.out).mono ?_);(case side1 => exact Cst (Kd.C_below HR0_1.out HB.out));(case side2 => exact HC0_1.out);rintro e w18 ⟨rfl, hb⟩;have n0_ := Aside0.mk (blk_below (g := gb138) (o := .cells #[.int .i64 a0_0, .slice A0_1 l0_1.length c0_1] 24 (0, 0)) (blkst BK138.out) hb);have n1_ := Aside0.mk (blk_below (g := gb139) (o := .cells #[.int .i64 a1_0, .slice A1_1 l1_1.length c1_1] 24 (0, 0)) (blkst BK139.out) hb);have n2_ := Aside0.mk (below_step (bel HB.out) hb);clear BK138;clear BK139;clear HB;have BK138 := n0_;have BK139 := n1_;have HB := n2_;clear n0_ n1_ n2_;(try clear hb);(try clear hb2);(try clear hk);(try clear hi);have hcz19_0 : w18.cell? ⟨gb139, 0, none⟩ = some (.int .i64 a1_0) := (blk_cell BK139.out 0).trans rfl;have hcz19_1 : w18.cell? ⟨gb139, 1, none⟩ = some (.slice A1_1 l1_1.length c1_1) := (blk_cell BK139.out 1).trans rfl;have hfz19_0 := blk_frozen BK139.out 0;have hfz19_1 := blk_frozen BK139.out 1) | (go_at_call 11;(with_reducible refine (galoislaw27_large.calls k a1_0 _ _ l1_1 t142 _ ?side1 ?side2 A14.out).mono ?_);(case side1 => exact Cst (Kd.C_below HR1_1.out HB.out));(case side2 => exact HC1_1.out);rintro e w20 ⟨rfl, hb⟩;have n0_ := Aside0.mk (blk_below (g := gb138) (o := .cells #[.int .i64 a0_0, .slice A0_1 l0_1.length c0_1] 24 (0, 0)) (blkst BK138.out) hb);have n1_ := Aside0.mk (blk_below (g := gb139) (o := .cells #[.int .i64 a1_0, .slice A1_1 l1_1.length c1_1] 24 (0, 0)) (blkst BK139.out) hb);have n2_ := Aside0.mk (below_step (bel HB.out) hb);clear BK138;clear BK139;clear HB;have BK138 := n0_;have BK139 := n1_;have HB := n2_;clear n0_ n1_ n2_;(try clear hb);(try clear hb2);(try clear hk);(try clear hi)))
     go_meet
     case rel => exact ⟨_, (t142), (by first | rfl | (simp;done) | (simp [*];done)), H', ⟨by first | omega | exact Nat.le_refl _⟩, ⟨blkst BK138.out⟩, ⟨blkst BK139.out⟩, ⟨bel HB.out⟩⟩
  ·replace c7 := Bool.eq_false_iff.mpr c7
   subst c7
   have H1 : (galoislaw27_CosetLagrange.j0 k true a0_0 l0_1 a1_0 l1_1) = some r := by rw [if_neg (show ¬ (false = true) by decide)] at H;exact H
   clear H
   have H := H1
   clear H1
   have H' := Aside0.mk H
   clear H
   as_aux_lemma =>
    go_wp2_with (first|((with_reducible refine gate_callee (f := 10) rfl ?_);refine goesL_ (some 21) rfl rfl Try.func10 (by kernel_rfl) rfl #[] rfl (by (try simp only [List.map_toArray, List.map_cons, List.map_nil]);first | done | rfl | (simp only [List.length_drop, List.length_take];rfl)) ?_;(with_reducible refine (galoislaw27_awake.calls  false _ A6.out).mono ?_);rintro e w21 ⟨rfl, hb⟩;refine ⟨_, rfl, ?_⟩;have n0_ := Aside0.mk (blk_below (g := gb138) (o := .cells #[.int .i64 a0_0, .slice A0_1 l0_1.length c0_1] 24 (0, 0)) (blkst BK138.out) hb);have n1_ := Aside0.mk (blk_below (g := gb139) (o := .cells #[.int .i64 a1_0, .slice A1_1 l1_1.length c1_1] 24 (0, 0)) (blkst BK139.out) hb);have n2_ := Aside0.mk (below_step (bel HB.out) hb);clear BK138;clear BK139;clear HB;have BK138 := n0_;have BK139 := n1_;have HB := n2_;clear n0_ n1_ n2_;(try clear hb);(try clear hb2);(try clear hk);(try clear hi)))
    go_meet
    case rel => exact ⟨_, (true), (by first | rfl | (simp;done) | (simp [*];done)), H', ⟨by first | omega | exact Nat.le_refl _⟩, ⟨blkst BK138.out⟩, ⟨blkst BK139.out⟩, ⟨bel HB.out⟩⟩
 case rest =>
  clear HC3
  try clear c1
  try clear p2
  try clear c6
  try clear c7
  try clear c9
  try clear c10
  try clear c11
  try clear c16
  try clear hcz12_0
  try clear hcz12_1
  try clear hcz17_0
  try clear hcz17_1
  try clear hcz19_0
  try clear hcz19_1
  try clear hfz12_0
  try clear hfz12_1
  try clear hfz17_0
  try clear hfz17_1
  try clear hfz19_0
  try clear hfz19_1
  obtain ⟨kq, x30_2, rfl, HA, HJ2, BK138, BK139, HB⟩ := hcut
  cases kq with
  | zero => exact absurd HA.out (by simp [galoislaw27_CosetLagrange.j0])
  | succ kj2 =>
   have H := HA.out
   clear HA
   simp only [galoislaw27_CosetLagrange.j0] at H
   by_cases c22 : x30_2 = true
   ·subst c22
    have H1 : ((galoislaw27_awake.f).bind fun t143 => (some t143)) = some r := by rw [if_pos rfl] at H;exact H
    clear H
    have H := H1
    clear H1
    replace H := Option.bind_eq_some_iff.mp H
    obtain ⟨t143, A230, H⟩ := H
    replace H : (some t143) = some r := H
    have A23 := Aside0.mk A230
    clear A230
    obtain rfl := Option.some.inj H
    as_aux_lemma =>
     go_wp2_with (first|((with_reducible refine gate_callee (f := 10) rfl ?_);refine goesL_ (some 31) rfl rfl Try.func10 (by kernel_rfl) rfl #[] rfl (by (try simp only [List.map_toArray, List.map_cons, List.map_nil]);first | done | rfl | (simp only [List.length_drop, List.length_take];rfl)) ?_;(with_reducible refine (galoislaw27_awake.calls  t143 _ A23.out).mono ?_);rintro e w24 ⟨rfl, hb⟩;refine ⟨_, rfl, ?_⟩;have n0_ := Aside0.mk (blk_below (g := gb138) (o := .cells #[.int .i64 a0_0, .slice A0_1 l0_1.length c0_1] 24 (0, 0)) (blkst BK138.out) hb);have n1_ := Aside0.mk (blk_below (g := gb139) (o := .cells #[.int .i64 a1_0, .slice A1_1 l1_1.length c1_1] 24 (0, 0)) (blkst BK139.out) hb);have n2_ := Aside0.mk (below_step (bel HB.out) hb);clear BK138;clear BK139;clear HB;have BK138 := n0_;have BK139 := n1_;have HB := n2_;clear n0_ n1_ n2_;(try clear hb);(try clear hb2);(try clear hk);(try clear hi)))
     go_ret
     exact ⟨by first | rfl | (simp [errW_none, errW_some] <;> rfl) | (simp [*, errW_none, errW_some] <;> rfl), bel HB.out⟩
   ·replace c22 := Bool.eq_false_iff.mpr c22
    subst c22
    have H1 : ((galoislaw27_groups.f kj2 a0_0 l0_1 a1_0 l1_1).bind fun bt144 => (if bt144.2.2 = 0 then ((coset_Index.f kj2 a0_0 l0_1 a1_0 l1_1).bind fun bt151 => ((coset_Representatives.f kj2 a0_0 l0_1 a1_0 l1_1).bind fun bt153 => ((coset_DoubleCosets.f kj2 a0_0 l0_1 a1_0 l1_1 a1_0 l1_1).bind fun bt157 => (if bt151.2 = 0 then (if bt153.2 = 0 then (if bt157.2.2 = 0 then (if (wrap64 (bt151.1 * (bt144.2.1.length : Int))) = (bt144.1.length : Int) then (galoislaw27_CosetLagrange.j1 kj2 bt144.1 bt144.2.1 bt151.1 bt153.1 bt157.2.1 ((bt153.1.length : Int) != bt151.1) a0_0 l0_1 a1_0 l1_1) else (galoislaw27_CosetLagrange.j1 kj2 bt144.1 bt144.2.1 bt151.1 bt153.1 bt157.2.1 true a0_0 l0_1 a1_0 l1_1)) else (galoislaw27_CosetLagrange.j1 kj2 bt144.1 bt144.2.1 bt151.1 bt153.1 bt157.2.1 true a0_0 l0_1 a1_0 l1_1)) else (galoislaw27_CosetLagrange.j1 kj2 bt144.1 bt144.2.1 bt151.1 bt153.1 bt157.2.1 true a0_0 l0_1 a1_0 l1_1)) else (galoislaw27_CosetLagrange.j1 kj2 bt144.1 bt144.2.1 bt151.1 bt153.1 bt157.2.1 true a0_0 l0_1 a1_0 l1_1))))) else (some true))) = some r := by rw [if_neg (show ¬ (false = true) by decide)] at H;exact H
    clear H
    have H := H1
    clear H1
    replace H := Option.bind_eq_some_iff.mp H
    obtain ⟨⟨t144, t147, t150⟩, A250, H⟩ := H
    replace H : (if t150 = 0 then ((coset_Index.f kj2 a0_0 l0_1 a1_0 l1_1).bind fun bt151 => ((coset_Representatives.f kj2 a0_0 l0_1 a1_0 l1_1).bind fun bt153 => ((coset_DoubleCosets.f kj2 a0_0 l0_1 a1_0 l1_1 a1_0 l1_1).bind fun bt157 => (if bt151.2 = 0 then (if bt153.2 = 0 then (if bt157.2.2 = 0 then (if (wrap64 (bt151.1 * (t147.length : Int))) = (t144.length : Int) then (galoislaw27_CosetLagrange.j1 kj2 t144 t147 bt151.1 bt153.1 bt157.2.1 ((bt153.1.length : Int) != bt151.1) a0_0 l0_1 a1_0 l1_1) else (galoislaw27_CosetLagrange.j1 kj2 t144 t147 bt151.1 bt153.1 bt157.2.1 true a0_0 l0_1 a1_0 l1_1)) else (galoislaw27_CosetLagrange.j1 kj2 t144 t147 bt151.1 bt153.1 bt157.2.1 true a0_0 l0_1 a1_0 l1_1)) else (galoislaw27_CosetLagrange.j1 kj2 t144 t147 bt151.1 bt153.1 bt157.2.1 true a0_0 l0_1 a1_0 l1_1)) else (galoislaw27_CosetLagrange.j1 kj2 t144 t147 bt151.1 bt153.1 bt157.2.1 true a0_0 l0_1 a1_0 l1_1))))) else (some true)) = some r := H
    have A25 := Aside0.mk A250
    clear A250
    by_cases c26 : t150 = 0
    ·rw [if_pos c26] at H
     have c26b0 : (t150 == 0) = true := beq_iff_eq.mpr c26
     have c26b1 : (t150 != 0) = false := bne_eq_false_iff_eq.mpr c26
     clear c26
     replace H := Option.bind_eq_some_iff.mp H
     obtain ⟨⟨t151, t152⟩, A270, H⟩ := H
     replace H : ((coset_Representatives.f kj2 a0_0 l0_1 a1_0 l1_1).bind fun bt153 => ((coset_DoubleCosets.f kj2 a0_0 l0_1 a1_0 l1_1 a1_0 l1_1).bind fun bt157 => (if t152 = 0 then (if bt153.2 = 0 then (if bt157.2.2 = 0 then (if (wrap64 (t151 * (t147.length : Int))) = (t144.length : Int) then (galoislaw27_CosetLagrange.j1 kj2 t144 t147 t151 bt153.1 bt157.2.1 ((bt153.1.length : Int) != t151) a0_0 l0_1 a1_0 l1_1) else (galoislaw27_CosetLagrange.j1 kj2 t144 t147 t151 bt153.1 bt157.2.1 true a0_0 l0_1 a1_0 l1_1)) else (galoislaw27_CosetLagrange.j1 kj2 t144 t147 t151 bt153.1 bt157.2.1 true a0_0 l0_1 a1_0 l1_1)) else (galoislaw27_CosetLagrange.j1 kj2 t144 t147 t151 bt153.1 bt157.2.1 true a0_0 l0_1 a1_0 l1_1)) else (galoislaw27_CosetLagrange.j1 kj2 t144 t147 t151 bt153.1 bt157.2.1 true a0_0 l0_1 a1_0 l1_1)))) = some r := H
     have A27 := Aside0.mk A270
     clear A270
     replace H := Option.bind_eq_some_iff.mp H
     obtain ⟨⟨t153, t156⟩, A280, H⟩ := H
     replace H : ((coset_DoubleCosets.f kj2 a0_0 l0_1 a1_0 l1_1 a1_0 l1_1).bind fun bt157 => (if t152 = 0 then (if t156 = 0 then (if bt157.2.2 = 0 then (if (wrap64 (t151 * (t147.length : Int))) = (t144.length : Int) then (galoislaw27_CosetLagrange.j1 kj2 t144 t147 t151 t153 bt157.2.1 ((t153.length : Int) != t151) a0_0 l0_1 a1_0 l1_1) else (galoislaw27_CosetLagrange.j1 kj2 t144 t147 t151 t153 bt157.2.1 true a0_0 l0_1 a1_0 l1_1)) else (galoislaw27_CosetLagrange.j1 kj2 t144 t147 t151 t153 bt157.2.1 true a0_0 l0_1 a1_0 l1_1)) else (galoislaw27_CosetLagrange.j1 kj2 t144 t147 t151 t153 bt157.2.1 true a0_0 l0_1 a1_0 l1_1)) else (galoislaw27_CosetLagrange.j1 kj2 t144 t147 t151 t153 bt157.2.1 true a0_0 l0_1 a1_0 l1_1))) = some r := H
     have A28 := Aside0.mk A280
     clear A280
     replace H := Option.bind_eq_some_iff.mp H
     obtain ⟨⟨t157, t160, t163⟩, A290, H⟩ := H
     replace H : (if t152 = 0 then (if t156 = 0 then (if t163 = 0 then (if (wrap64 (t151 * (t147.length : Int))) = (t144.length : Int) then (galoislaw27_CosetLagrange.j1 kj2 t144 t147 t151 t153 t160 ((t153.length : Int) != t151) a0_0 l0_1 a1_0 l1_1) else (galoislaw27_CosetLagrange.j1 kj2 t144 t147 t151 t153 t160 true a0_0 l0_1 a1_0 l1_1)) else (galoislaw27_CosetLagrange.j1 kj2 t144 t147 t151 t153 t160 true a0_0 l0_1 a1_0 l1_1)) else (galoislaw27_CosetLagrange.j1 kj2 t144 t147 t151 t153 t160 true a0_0 l0_1 a1_0 l1_1)) else (galoislaw27_CosetLagrange.j1 kj2 t144 t147 t151 t153 t160 true a0_0 l0_1 a1_0 l1_1)) = some r := H
     have A29 := Aside0.mk A290
     clear A290
     have HC30 := Aside0.mk H
     clear H
     have hnb31 := NB138_139.out
     have hnc31 := NB139_138.out
     have hcz32_0 : wc.cell? ⟨gb138, 0, none⟩ = some (.int .i64 a0_0) := (blk_cell BK138.out 0).trans rfl
     have hcz32_1 : wc.cell? ⟨gb138, 1, none⟩ = some (.slice A0_1 l0_1.length c0_1) := (blk_cell BK138.out 1).trans rfl
     have hfz32_0 := blk_frozen BK138.out 0
     have hfz32_1 := blk_frozen BK138.out 1
     have hcz33_0 : wc.cell? ⟨gb139, 0, none⟩ = some (.int .i64 a1_0) := (blk_cell BK139.out 0).trans rfl
     have hcz33_1 : wc.cell? ⟨gb139, 1, none⟩ = some (.slice A1_1 l1_1.length c1_1) := (blk_cell BK139.out 1).trans rfl
     have hfz33_0 := blk_frozen BK139.out 0
     have hfz33_1 := blk_frozen BK139.out 1
     go_upto_region 9 with (first|((with_reducible refine gate_callee (f := 18) rfl ?_);refine goesL_ (some 35) rfl rfl Try.func18 (by kernel_rfl) rfl #[.agg #[.int .i64 a0_0, .slice A0_1 l0_1.length c0_1], .agg #[.int .i64 a1_0, .slice A1_1 l1_1.length c1_1]] rfl (by (try simp only [List.map_toArray, List.map_cons, List.map_nil]);first | done | rfl | (simp only [List.length_drop, List.length_take];rfl)) ?_;(with_reducible refine (galoislaw27_groups.calls kj2 a0_0 _ _ l0_1 a1_0 _ _ l1_1 t144 t147 t150 _ ?side1 ?side2 ?side3 ?side4 A25.out).mono ?_);(case side1 => exact Cst (Kd.C_below HR0_1.out HB.out));(case side2 => exact HC0_1.out);(case side3 => exact Cst (Kd.C_below HR1_1.out HB.out));(case side4 => exact HC1_1.out);rintro e w34 ⟨v145, v148, rfl, ho0, ho1, hb⟩;refine ⟨_, rfl, ?_⟩;have n0_ := Aside0.mk (Kd.S_lower ho0 (below_size (bel HB.out)));have n1_ := Aside0.mk (Kd.S_lower ho1 (below_size (bel HB.out)));have n2_ := Aside0.mk (blk_below (g := gb138) (o := .cells #[.int .i64 a0_0, .slice A0_1 l0_1.length c0_1] 24 (0, 0)) (blkst BK138.out) hb);have n3_ := Aside0.mk (blk_below (g := gb139) (o := .cells #[.int .i64 a1_0, .slice A1_1 l1_1.length c1_1] 24 (0, 0)) (blkst BK139.out) hb);have n4_ := Aside0.mk (below_step (bel HB.out) hb);clear BK138;clear BK139;clear HB;have HO146 := n0_;have HO149 := n1_;have BK138 := n2_;have BK139 := n3_;have HB := n4_;clear n0_ n1_ n2_ n3_ n4_;(try clear hb);(try clear hb2);(try clear hk);(try clear hi);(try clear ho0);(try clear ho1);have hcz35_0 : w34.cell? ⟨gb138, 0, none⟩ = some (.int .i64 a0_0) := (blk_cell BK138.out 0).trans rfl;have hcz35_1 : w34.cell? ⟨gb138, 1, none⟩ = some (.slice A0_1 l0_1.length c0_1) := (blk_cell BK138.out 1).trans rfl;have hfz35_0 := blk_frozen BK138.out 0;have hfz35_1 := blk_frozen BK138.out 1;have hcz36_0 : w34.cell? ⟨gb139, 0, none⟩ = some (.int .i64 a1_0) := (blk_cell BK139.out 0).trans rfl;have hcz36_1 : w34.cell? ⟨gb139, 1, none⟩ = some (.slice A1_1 l1_1.length c1_1) := (blk_cell BK139.out 1).trans rfl;have hfz36_0 := blk_frozen BK139.out 0;have hfz36_1 := blk_frozen BK139.out 1) | ((with_reducible refine gate_callee (f := 21) rfl ?_);refine goesL_ (some 44) rfl rfl Try.func21 (by kernel_rfl) rfl #[.agg #[.int .i64 a0_0, .slice A0_1 l0_1.length c0_1], .agg #[.int .i64 a1_0, .slice A1_1 l1_1.length c1_1]] rfl (by (try simp only [List.map_toArray, List.map_cons, List.map_nil]);first | done | rfl | (simp only [List.length_drop, List.length_take];rfl)) ?_;(with_reducible refine (coset_Index.calls kj2 a0_0 _ _ l0_1 a1_0 _ _ l1_1 t151 t152 _ ?side1 ?side2 ?side3 ?side4 A27.out).mono ?_);(case side1 => exact Cst (Kd.C_below HR0_1.out HB.out));(case side2 => exact HC0_1.out);(case side3 => exact Cst (Kd.C_below HR1_1.out HB.out));(case side4 => exact HC1_1.out);rintro e w37 ⟨rfl, hb⟩;refine ⟨_, rfl, ?_⟩;have n0_ := Aside0.mk (Kd.S_below (Sst HO146.out) hb);have n1_ := Aside0.mk (Kd.S_below (Sst HO149.out) hb);have n2_ := Aside0.mk (blk_below (g := gb138) (o := .cells #[.int .i64 a0_0, .slice A0_1 l0_1.length c0_1] 24 (0, 0)) (blkst BK138.out) hb);have n3_ := Aside0.mk (blk_below (g := gb139) (o := .cells #[.int .i64 a1_0, .slice A1_1 l1_1.length c1_1] 24 (0, 0)) (blkst BK139.out) hb);have n4_ := Aside0.mk (below_step (bel HB.out) hb);clear HO146;clear HO149;clear BK138;clear BK139;clear HB;have HO146 := n0_;have HO149 := n1_;have BK138 := n2_;have BK139 := n3_;have HB := n4_;clear n0_ n1_ n2_ n3_ n4_;(try clear hb);(try clear hb2);(try clear hk);(try clear hi);have hcz38_0 : w37.cell? ⟨gb138, 0, none⟩ = some (.int .i64 a0_0) := (blk_cell BK138.out 0).trans rfl;have hcz38_1 : w37.cell? ⟨gb138, 1, none⟩ = some (.slice A0_1 l0_1.length c0_1) := (blk_cell BK138.out 1).trans rfl;have hfz38_0 := blk_frozen BK138.out 0;have hfz38_1 := blk_frozen BK138.out 1;have hcz39_0 : w37.cell? ⟨gb139, 0, none⟩ = some (.int .i64 a1_0) := (blk_cell BK139.out 0).trans rfl;have hcz39_1 : w37.cell? ⟨gb139, 1, none⟩ = some (.slice A1_1 l1_1.length c1_1) := (blk_cell BK139.out 1).trans rfl;have hfz39_0 := blk_frozen BK139.out 0;have hfz39_1 := blk_frozen BK139.out 1) | ((with_reducible refine gate_callee (f := 22) rfl ?_);refine goesL_ (some 50) rfl rfl Try.func22 (by kernel_rfl) rfl #[.agg #[.int .i64 a0_0, .slice A0_1 l0_1.length c0_1], .agg #[.int .i64 a1_0, .slice A1_1 l1_1.length c1_1]] rfl (by (try simp only [List.map_toArray, List.map_cons, List.map_nil]);first | done | rfl | (simp only [List.length_drop, List.length_take];rfl)) ?_;(with_reducible refine (coset_Representatives.calls kj2 a0_0 _ _ l0_1 a1_0 _ _ l1_1 t153 t156 _ ?side1 ?side2 ?side3 ?side4 A28.out).mono ?_);(case side1 => exact Cst (Kd.C_below HR0_1.out HB.out));(case side2 => exact HC0_1.out);(case side3 => exact Cst (Kd.C_below HR1_1.out HB.out));(case side4 => exact HC1_1.out);rintro e w40 ⟨v154, rfl, ho0, hb⟩;refine ⟨_, rfl, ?_⟩;have n0_ := Aside0.mk (Kd.S_elder' (Sst HO146.out) (Kd.S_base ho0) hb);have n1_ := Aside0.mk (Kd.S_elder' (Sst HO149.out) (Kd.S_base ho0) hb);have n2_ := Aside0.mk (Kd.S_lower (Kd.S_new' (Kd.S_new' ho0 (Kd.S_lt (Sst HO146.out))) (Kd.S_lt (Sst HO149.out))) (below_size (bel HB.out)));have n3_ := Aside0.mk (blk_below (g := gb138) (o := .cells #[.int .i64 a0_0, .slice A0_1 l0_1.length c0_1] 24 (0, 0)) (blkst BK138.out) hb);have n4_ := Aside0.mk (blk_below (g := gb139) (o := .cells #[.int .i64 a1_0, .slice A1_1 l1_1.length c1_1] 24 (0, 0)) (blkst BK139.out) hb);have n5_ := Aside0.mk (below_step (bel HB.out) hb);clear HO146;clear HO149;clear BK138;clear BK139;clear HB;have HO146 := n0_;have HO149 := n1_;have HO155 := n2_;have BK138 := n3_;have BK139 := n4_;have HB := n5_;clear n0_ n1_ n2_ n3_ n4_ n5_;(try clear hb);(try clear hb2);(try clear hk);(try clear hi);(try clear ho0);have hcz41_0 : w40.cell? ⟨gb138, 0, none⟩ = some (.int .i64 a0_0) := (blk_cell BK138.out 0).trans rfl;have hcz41_1 : w40.cell? ⟨gb138, 1, none⟩ = some (.slice A0_1 l0_1.length c0_1) := (blk_cell BK138.out 1).trans rfl;have hfz41_0 := blk_frozen BK138.out 0;have hfz41_1 := blk_frozen BK138.out 1;have hcz42_0 : w40.cell? ⟨gb139, 0, none⟩ = some (.int .i64 a1_0) := (blk_cell BK139.out 0).trans rfl;have hcz42_1 : w40.cell? ⟨gb139, 1, none⟩ = some (.slice A1_1 l1_1.length c1_1) := (blk_cell BK139.out 1).trans rfl;have hfz42_0 := blk_frozen BK139.out 0;have hfz42_1 := blk_frozen BK139.out 1) | ((with_reducible refine gate_callee (f := 30) rfl ?_);refine goesL_ (some 57) rfl rfl Try.func30 (by kernel_rfl) rfl #[.agg #[.int .i64 a0_0, .slice A0_1 l0_1.length c0_1], .agg #[.int .i64 a1_0, .slice A1_1 l1_1.length c1_1], .agg #[.int .i64 a1_0, .slice A1_1 l1_1.length c1_1]] rfl (by (try simp only [List.map_toArray, List.map_cons, List.map_nil]);first | done | rfl | (simp only [List.length_drop, List.length_take];rfl)) ?_;(with_reducible refine (coset_DoubleCosets.calls kj2 a0_0 _ _ l0_1 a1_0 _ _ l1_1 a1_0 _ _ l1_1 t157 t160 t163 _ ?side1 ?side2 ?side3 ?side4 ?side5 ?side6 A29.out).mono ?_);(case side1 => exact Cst (Kd.C_below HR0_1.out HB.out));(case side2 => exact HC0_1.out);(case side3 => exact Cst (Kd.C_below HR1_1.out HB.out));(case side4 => exact HC1_1.out);(case side5 => exact Cst (Kd.C_below HR1_1.out HB.out));(case side6 => exact HC1_1.out);rintro e w43 ⟨v158, v161, rfl, ho0, ho1, hb⟩;refine ⟨_, rfl, ?_⟩;have n0_ := Aside0.mk (Kd.S_mono (Kd.S_told (Kd.S_told (Kd.S_old (Sst HO146.out) hb) (Kd.S_base ho0)) (Kd.R_base ho1)) (fun _ h_ => h_.1));have n1_ := Aside0.mk (Kd.S_mono (Kd.S_told (Kd.S_told (Kd.S_old (Sst HO149.out) hb) (Kd.S_base ho0)) (Kd.R_base ho1)) (fun _ h_ => h_.1));have n2_ := Aside0.mk (Kd.S_mono (Kd.S_told (Kd.S_told (Kd.S_old (Sst HO155.out) hb) (Kd.S_base ho0)) (Kd.R_base ho1)) (fun _ h_ => h_.1));have n3_ := Aside0.mk (Kd.S_lower (Kd.S_new' (Kd.S_new' (Kd.S_new' ho0 (Kd.S_lt (Sst HO146.out))) (Kd.S_lt (Sst HO149.out))) (Kd.S_lt (Sst HO155.out))) (below_size (bel HB.out)));have n4_ := Aside0.mk (Kd.R_lower ho1 (below_size (bel HB.out)));have n5_ := Aside0.mk (blk_below (g := gb138) (o := .cells #[.int .i64 a0_0, .slice A0_1 l0_1.length c0_1] 24 (0, 0)) (blkst BK138.out) hb);have n6_ := Aside0.mk (blk_below (g := gb139) (o := .cells #[.int .i64 a1_0, .slice A1_1 l1_1.length c1_1] 24 (0, 0)) (blkst BK139.out) hb);have n7_ := Aside0.mk (below_step (bel HB.out) hb);clear HO146;clear HO149;clear HO155;clear BK138;clear BK139;clear HB;have HO146 := n0_;have HO149 := n1_;have HO155 := n2_;have HO159 := n3_;have HO162 := n4_;have BK138 := n5_;have BK139 := n6_;have HB := n7_;clear n0_ n1_ n2_ n3_ n4_ n5_ n6_ n7_;(try clear hb);(try clear hb2);(try clear hk);(try clear hi);(try clear ho0);(try clear ho1)))
     (try simp only [Act.put, List.setIfInBounds_toArray, List.set_cons_zero, List.set_cons_succ])
     go_cut [85] (fun v85 wc => ∃ (kq : Nat) (x85_29 : Bool), v85 = .bool x85_29 ∧ Aside0 (galoislaw27_CosetLagrange.j1 kq t144 t147 t151 t153 t160 x85_29 a0_0 l0_1 a1_0 l1_1 = some r) ∧ Aside0 (kq ≤ kj2) ∧ Aside0 (Kd.S (Kd.slice 3 (Kd.int .i64)) 43 wc w.heap.size (fun k_ => some k_ ≠ (v148 : Value).ownBlock ∧ some k_ ≠ (v154 : Value).ownBlock ∧ some k_ ≠ (v161 : Value).ownBlock) v145 t144) ∧ Aside0 (Kd.S (Kd.slice 3 (Kd.int .i64)) 43 wc w.heap.size (fun k_ => some k_ ≠ (v145 : Value).ownBlock ∧ some k_ ≠ (v154 : Value).ownBlock ∧ some k_ ≠ (v161 : Value).ownBlock) v148 t147) ∧ Aside0 (Kd.S (Kd.slice 3 (Kd.int .i64)) 43 wc w.heap.size (fun k_ => some k_ ≠ (v145 : Value).ownBlock ∧ some k_ ≠ (v148 : Value).ownBlock ∧ some k_ ≠ (v161 : Value).ownBlock) v154 t153) ∧ Aside0 (Kd.R (Kd.int .i64) 3 wc w.heap.size (fun _ => True) v161 t160) ∧ Aside0 (wc.heap[gb138]? = some (.cells #[.int .i64 a0_0, (.slice A0_1 l0_1.length c0_1)] 24 (0, 0))) ∧ Aside0 (wc.heap[gb139]? = some (.cells #[.int .i64 a1_0, (.slice A1_1 l1_1.length c1_1)] 24 (0, 0))) ∧ Aside0 (Below w.heap.size w wc))
     case first =>
      have H := HC30.out
      clear HC30
      by_cases c44 : t152 = 0
      ·rw [if_pos c44] at H
       have c44b0 : (t152 == 0) = true := beq_iff_eq.mpr c44
       have c44b1 : (t152 != 0) = false := bne_eq_false_iff_eq.mpr c44
       clear c44
       (first|rw [c44b0] | (simp only [i64_w, i32_w];rw [c44b0]) | skip)
       by_cases c45 : t156 = 0
       ·rw [if_pos c45] at H
        have c45b0 : (t156 == 0) = true := beq_iff_eq.mpr c45
        have c45b1 : (t156 != 0) = false := bne_eq_false_iff_eq.mpr c45
        clear c45
        by_cases c46 : t163 = 0
        ·rw [if_pos c46] at H
         have c46b0 : (t163 == 0) = true := beq_iff_eq.mpr c46
         have c46b1 : (t163 != 0) = false := bne_eq_false_iff_eq.mpr c46
         clear c46
         by_cases c47 : (wrap64 (t151 * (t147.length : Int))) = (t144.length : Int)
         ·rw [if_pos c47] at H
          have c47b0 : ((wrap64 (t151 * (t147.length : Int))) == (t144.length : Int)) = true := beq_iff_eq.mpr c47
          have c47b1 : ((wrap64 (t151 * (t147.length : Int))) != (t144.length : Int)) = false := bne_eq_false_iff_eq.mpr c47
          clear c47
          have H' := Aside0.mk H
          clear H
          obtain ⟨Ao48, co48, eo48⟩ := Kd.S_slice HO149.out
          subst eo48
          obtain ⟨Ao49, co49, eo49⟩ := Kd.S_slice HO146.out
          subst eo49
          obtain ⟨Ao50, co50, eo50⟩ := Kd.S_slice HO155.out
          subst eo50
          as_aux_lemma =>
           go_wp2
           go_meet
           case rel => exact ⟨_, (((t153.length : Int) != t151)), (by first | rfl | (simp;done) | (simp [*];done)), H', ⟨by have := HJ2.out;first | omega | exact Nat.le_refl _⟩, ⟨by (with_reducible repeat (first|apply Kd.S_alloc | apply Kd.S_drewN | apply Kd.S_drew));exact Kd.S_mono HO146.out (fun _ hk => ⟨hk.1.1.1, ⟨hk.1.1.2, hk.2⟩⟩)⟩, ⟨by (with_reducible repeat (first|apply Kd.S_alloc | apply Kd.S_drewN | apply Kd.S_drew));exact Kd.S_mono HO149.out (fun _ hk => ⟨hk.1.1.1, ⟨hk.1.1.2, hk.2⟩⟩)⟩, ⟨by (with_reducible repeat (first|apply Kd.S_alloc | apply Kd.S_drewN | apply Kd.S_drew));exact Kd.S_mono HO155.out (fun _ hk => ⟨hk.1.1.1.2, ⟨hk.1.1.2, hk.2⟩⟩)⟩, ⟨Rst HO162.out⟩, ⟨blkst BK138.out⟩, ⟨blkst BK139.out⟩, ⟨bel HB.out⟩⟩
         ·rw [if_neg c47] at H
          have c47b0 : ((wrap64 (t151 * (t147.length : Int))) == (t144.length : Int)) = false := beq_eq_false_iff_ne.mpr c47
          have c47b1 : ((wrap64 (t151 * (t147.length : Int))) != (t144.length : Int)) = true := bne_iff_ne.mpr c47
          have H' := Aside0.mk H
          clear H
          obtain ⟨Ao51, co51, eo51⟩ := Kd.S_slice HO149.out
          subst eo51
          obtain ⟨Ao52, co52, eo52⟩ := Kd.S_slice HO146.out
          subst eo52
          as_aux_lemma =>
           go_wp2
           go_meet
           case rel => exact ⟨_, (true), (by first | rfl | (simp;done) | (simp [*];done)), H', ⟨by have := HJ2.out;first | omega | exact Nat.le_refl _⟩, ⟨by (with_reducible repeat (first|apply Kd.S_alloc | apply Kd.S_drewN | apply Kd.S_drew));exact Kd.S_mono HO146.out (fun _ hk => ⟨hk.1.1.1, ⟨hk.1.1.2, hk.2⟩⟩)⟩, ⟨by (with_reducible repeat (first|apply Kd.S_alloc | apply Kd.S_drewN | apply Kd.S_drew));exact Kd.S_mono HO149.out (fun _ hk => ⟨hk.1.1.1, ⟨hk.1.1.2, hk.2⟩⟩)⟩, ⟨by (with_reducible repeat (first|apply Kd.S_alloc | apply Kd.S_drewN | apply Kd.S_drew));exact Kd.S_mono HO155.out (fun _ hk => ⟨hk.1.1.1.2, ⟨hk.1.1.2, hk.2⟩⟩)⟩, ⟨Rst HO162.out⟩, ⟨blkst BK138.out⟩, ⟨blkst BK139.out⟩, ⟨bel HB.out⟩⟩
        ·rw [if_neg c46] at H
         have c46b0 : (t163 == 0) = false := beq_eq_false_iff_ne.mpr c46
         have c46b1 : (t163 != 0) = true := bne_iff_ne.mpr c46
         have H' := Aside0.mk H
         clear H
         as_aux_lemma =>
          go_wp2
          go_meet
          case rel => exact ⟨_, (true), (by first | rfl | (simp;done) | (simp [*];done)), H', ⟨by have := HJ2.out;first | omega | exact Nat.le_refl _⟩, ⟨by (with_reducible repeat (first|apply Kd.S_alloc | apply Kd.S_drewN | apply Kd.S_drew));exact Kd.S_mono HO146.out (fun _ hk => ⟨hk.1.1.1, ⟨hk.1.1.2, hk.2⟩⟩)⟩, ⟨by (with_reducible repeat (first|apply Kd.S_alloc | apply Kd.S_drewN | apply Kd.S_drew));exact Kd.S_mono HO149.out (fun _ hk => ⟨hk.1.1.1, ⟨hk.1.1.2, hk.2⟩⟩)⟩, ⟨by (with_reducible repeat (first|apply Kd.S_alloc | apply Kd.S_drewN | apply Kd.S_drew));exact Kd.S_mono HO155.out (fun _ hk => ⟨hk.1.1.1.2, ⟨hk.1.1.2, hk.2⟩⟩)⟩, ⟨Rst HO162.out⟩, ⟨blkst BK138.out⟩, ⟨blkst BK139.out⟩, ⟨bel HB.out⟩⟩
       ·rw [if_neg c45] at H
        have c45b0 : (t156 == 0) = false := beq_eq_false_iff_ne.mpr c45
        have c45b1 : (t156 != 0) = true := bne_iff_ne.mpr c45
        have H' := Aside0.mk H
        clear H
        as_aux_lemma =>
         go_wp2
         go_meet
         case rel => exact ⟨_, (true), (by first | rfl | (simp;done) | (simp [*];done)), H', ⟨by have := HJ2.out;first | omega | exact Nat.le_refl _⟩, ⟨by (with_reducible repeat (first|apply Kd.S_alloc | apply Kd.S_drewN | apply Kd.S_drew));exact Kd.S_mono HO146.out (fun _ hk => ⟨hk.1.1.1, ⟨hk.1.1.2, hk.2⟩⟩)⟩, ⟨by (with_reducible repeat (first|apply Kd.S_alloc | apply Kd.S_drewN | apply Kd.S_drew));exact Kd.S_mono HO149.out (fun _ hk => ⟨hk.1.1.1, ⟨hk.1.1.2, hk.2⟩⟩)⟩, ⟨by (with_reducible repeat (first|apply Kd.S_alloc | apply Kd.S_drewN | apply Kd.S_drew));exact Kd.S_mono HO155.out (fun _ hk => ⟨hk.1.1.1.2, ⟨hk.1.1.2, hk.2⟩⟩)⟩, ⟨Rst HO162.out⟩, ⟨blkst BK138.out⟩, ⟨blkst BK139.out⟩, ⟨bel HB.out⟩⟩
      ·rw [if_neg c44] at H
       have c44b0 : (t152 == 0) = false := beq_eq_false_iff_ne.mpr c44
       have c44b1 : (t152 != 0) = true := bne_iff_ne.mpr c44
       (first|rw [c44b0] | (simp only [i64_w, i32_w];rw [c44b0]) | skip)
       have H' := Aside0.mk H
       clear H
       as_aux_lemma =>
        go_wp2
        go_meet
        case rel => exact ⟨_, (true), (by first | rfl | (simp;done) | (simp [*];done)), H', ⟨by have := HJ2.out;first | omega | exact Nat.le_refl _⟩, ⟨by (with_reducible repeat (first|apply Kd.S_alloc | apply Kd.S_drewN | apply Kd.S_drew));exact Kd.S_mono HO146.out (fun _ hk => ⟨hk.1.1.1, ⟨hk.1.1.2, hk.2⟩⟩)⟩, ⟨by (with_reducible repeat (first|apply Kd.S_alloc | apply Kd.S_drewN | apply Kd.S_drew));exact Kd.S_mono HO149.out (fun _ hk => ⟨hk.1.1.1, ⟨hk.1.1.2, hk.2⟩⟩)⟩, ⟨by (with_reducible repeat (first|apply Kd.S_alloc | apply Kd.S_drewN | apply Kd.S_drew));exact Kd.S_mono HO155.out (fun _ hk => ⟨hk.1.1.1.2, ⟨hk.1.1.2, hk.2⟩⟩)⟩, ⟨Rst HO162.out⟩, ⟨blkst BK138.out⟩, ⟨blkst BK139.out⟩, ⟨bel HB.out⟩⟩
     case rest =>
      clear HC30
      try clear c1
      try clear c2
      try clear p2
      try clear c3
      try clear c4
      try clear c6
      try clear p6
      try clear c7
      try clear c9
      try clear c10
      try clear c11
      try clear c16
      try clear c18
      try clear c21
      try clear c22
      try clear c26
      try clear c26b0
      try clear c26b1
      try clear c30
      try clear c31
      try clear c44
      try clear c44b0
      try clear c44b1
      try clear c45
      try clear c45b0
      try clear c45b1
      try clear c46
      try clear c46b0
      try clear c46b1
      try clear c47
      try clear c47b0
      try clear c47b1
      try clear hcz12_0
      try clear hcz12_1
      try clear hcz17_0
      try clear hcz17_1
      try clear hcz19_0
      try clear hcz19_1
      try clear hcz32_0
      try clear hcz32_1
      try clear hcz33_0
      try clear hcz33_1
      try clear hcz35_0
      try clear hcz35_1
      try clear hcz36_0
      try clear hcz36_1
      try clear hcz38_0
      try clear hcz38_1
      try clear hcz39_0
      try clear hcz39_1
      try clear hcz41_0
      try clear hcz41_1
      try clear hcz42_0
      try clear hcz42_1
      try clear hfz12_0
      try clear hfz12_1
      try clear hfz17_0
      try clear hfz17_1
      try clear hfz19_0
      try clear hfz19_1
      try clear hfz32_0
      try clear hfz32_1
      try clear hfz33_0
      try clear hfz33_1
      try clear hfz35_0
      try clear hfz35_1
      try clear hfz36_0
      try clear hfz36_1
      try clear hfz38_0
      try clear hfz38_1
      try clear hfz39_0
      try clear hfz39_1
      try clear hfz41_0
      try clear hfz41_1
      try clear hfz42_0
      try clear hfz42_1
      try clear p2
      obtain ⟨kq, x85_29, rfl, HA, HJ29, HO_5, HO_6, HO_10, HO_13, BK138, BK139, HB⟩ := hcut
      cases kq with
      | zero => exact absurd HA.out (by simp [galoislaw27_CosetLagrange.j1])
      | succ kj29 =>
       have H := HA.out
       clear HA
       simp only [galoislaw27_CosetLagrange.j1] at H
       by_cases c53 : x85_29 = true
       ·subst c53
        have H1 : (some false) = some r := by rw [if_pos rfl] at H;exact H
        clear H
        have H := H1
        clear H1
        obtain rfl := Option.some.inj H
        as_aux_lemma =>
         go_wp2
         go_ret
         exact ⟨by first | rfl | (simp [errW_none, errW_some] <;> rfl) | (simp [*, errW_none, errW_some] <;> rfl), bel HB.out⟩
       ·replace c53 := Bool.eq_false_iff.mpr c53
        subst c53
        have H1 : (galoislaw27_CosetLagrange.l0 kj29 t144 t147 t151 t153 t160 0 a0_0 l0_1 a1_0 l1_1) = some r := by rw [if_neg (show ¬ (false = true) by decide)] at H;exact H
        clear H
        have H := H1
        clear H1
        have H' := Aside0.mk H
        clear H
        as_aux_lemma =>
         go_wp2
         go_loopg [15] kj29 (fun kq v15 w' => ∃ (x15_3 : Int), v15 = .int .i64 x15_3 ∧ Aside0 (galoislaw27_CosetLagrange.l0 kq t144 t147 t151 t153 t160 x15_3 a0_0 l0_1 a1_0 l1_1 = some r) ∧ Aside0 (kq ≤ kj29) ∧ Aside0 (Kd.S (Kd.slice 3 (Kd.int .i64)) 43 w' w.heap.size (fun k_ => some k_ ≠ (v148 : Value).ownBlock ∧ some k_ ≠ (v154 : Value).ownBlock ∧ some k_ ≠ (v161 : Value).ownBlock) v145 t144) ∧ Aside0 (Kd.S (Kd.slice 3 (Kd.int .i64)) 43 w' w.heap.size (fun k_ => some k_ ≠ (v145 : Value).ownBlock ∧ some k_ ≠ (v154 : Value).ownBlock ∧ some k_ ≠ (v161 : Value).ownBlock) v148 t147) ∧ Aside0 (Kd.S (Kd.slice 3 (Kd.int .i64)) 43 w' w.heap.size (fun k_ => some k_ ≠ (v145 : Value).ownBlock ∧ some k_ ≠ (v148 : Value).ownBlock ∧ some k_ ≠ (v161 : Value).ownBlock) v154 t153) ∧ Aside0 (Kd.R (Kd.int .i64) 3 w' w.heap.size (fun _ => True) v161 t160) ∧ Aside0 (w'.heap[gb138]? = some (.cells #[.int .i64 a0_0, (.slice A0_1 l0_1.length c0_1)] 24 (0, 0))) ∧ Aside0 (w'.heap[gb139]? = some (.cells #[.int .i64 a1_0, (.slice A1_1 l1_1.length c1_1)] 24 (0, 0))) ∧ Aside0 (Below w.heap.size w w'))
         case atStart => exact ⟨(0), (by first | rfl | (simp;done) | (simp [*];done)), H', ⟨Nat.le_refl _⟩, ⟨Sst HO_5.out⟩, ⟨Sst HO_6.out⟩, ⟨Sst HO_10.out⟩, ⟨Rst HO_13.out⟩, ⟨blkst BK138.out⟩, ⟨blkst BK139.out⟩, ⟨bel HB.out⟩⟩
         case round =>
          clear H'
          try clear c1
          try clear c2
          try clear p2
          try clear c3
          try clear c4
          try clear c5
          try clear c6
          try clear p6
          try clear c7
          try clear c9
          try clear c10
          try clear c11
          try clear c16
          try clear c18
          try clear c21
          try clear c22
          try clear c26
          try clear c26b0
          try clear c26b1
          try clear c30
          try clear c31
          try clear c44
          try clear c44b0
          try clear c44b1
          try clear c45
          try clear c45b0
          try clear c45b1
          try clear c46
          try clear c46b0
          try clear c46b1
          try clear c47
          try clear c47b0
          try clear c47b1
          try clear c53
          try clear hcz12_0
          try clear hcz12_1
          try clear hcz17_0
          try clear hcz17_1
          try clear hcz19_0
          try clear hcz19_1
          try clear hcz32_0
          try clear hcz32_1
          try clear hcz33_0
          try clear hcz33_1
          try clear hcz35_0
          try clear hcz35_1
          try clear hcz36_0
          try clear hcz36_1
          try clear hcz38_0
          try clear hcz38_1
          try clear hcz39_0
          try clear hcz39_1
          try clear hcz41_0
          try clear hcz41_1
          try clear hcz42_0
          try clear hcz42_1
          try clear hfz12_0
          try clear hfz12_1
          try clear hfz17_0
          try clear hfz17_1
          try clear hfz19_0
          try clear hfz19_1
          try clear hfz32_0
          try clear hfz32_1
          try clear hfz33_0
          try clear hfz33_1
          try clear hfz35_0
          try clear hfz35_1
          try clear hfz36_0
          try clear hfz36_1
          try clear hfz38_0
          try clear hfz38_1
          try clear hfz39_0
          try clear hfz39_1
          try clear hfz41_0
          try clear hfz41_1
          try clear hfz42_0
          try clear hfz42_1
          try clear p2
          try clear p6
          obtain ⟨x15_3, rfl, HA, HK3, HO_5, HO_6, HO_10, HO_13, BK138, BK139, HB⟩ := hrel
          cases gk with
          | zero => exact absurd HA.out (by simp [galoislaw27_CosetLagrange.l0])
          | succ k3 =>
           have H := HA.out
           clear HA
           simp only [galoislaw27_CosetLagrange.l0] at H
           by_cases c54 : x15_3 < t151
           ·rw [if_pos c54] at H
            have c54b0 : decide (x15_3 < t151) = true := decide_eq_true c54
            clear c54
            have H' := Aside0.mk H
            clear H
            as_aux_lemma =>
             go_wp2
             go_loopg [16] k3 (fun kq v16 w' => ∃ (x16_4 : Int), v16 = .int .i64 x16_4 ∧ Aside0 (galoislaw27_CosetLagrange.l1 kq t144 t147 t151 t153 t160 x15_3 x16_4 a0_0 l0_1 a1_0 l1_1 = some r) ∧ Aside0 (kq ≤ k3) ∧ Aside0 (Kd.S (Kd.slice 3 (Kd.int .i64)) 43 w' w.heap.size (fun k_ => some k_ ≠ (v148 : Value).ownBlock ∧ some k_ ≠ (v154 : Value).ownBlock ∧ some k_ ≠ (v161 : Value).ownBlock) v145 t144) ∧ Aside0 (Kd.S (Kd.slice 3 (Kd.int .i64)) 43 w' w.heap.size (fun k_ => some k_ ≠ (v145 : Value).ownBlock ∧ some k_ ≠ (v154 : Value).ownBlock ∧ some k_ ≠ (v161 : Value).ownBlock) v148 t147) ∧ Aside0 (Kd.S (Kd.slice 3 (Kd.int .i64)) 43 w' w.heap.size (fun k_ => some k_ ≠ (v145 : Value).ownBlock ∧ some k_ ≠ (v148 : Value).ownBlock ∧ some k_ ≠ (v161 : Value).ownBlock) v154 t153) ∧ Aside0 (Kd.R (Kd.int .i64) 3 w' w.heap.size (fun _ => True) v161 t160) ∧ Aside0 (w'.heap[gb138]? = some (.cells #[.int .i64 a0_0, (.slice A0_1 l0_1.length c0_1)] 24 (0, 0))) ∧ Aside0 (w'.heap[gb139]? = some (.cells #[.int .i64 a1_0, (.slice A1_1 l1_1.length c1_1)] 24 (0, 0))) ∧ Aside0 (Below w.heap.size w w'))
             case atStart => exact ⟨(0), (by first | rfl | (simp;done) | (simp [*];done)), H', ⟨Nat.le_refl _⟩, ⟨Sst HO_5.out⟩, ⟨Sst HO_6.out⟩, ⟨Sst HO_10.out⟩, ⟨Rst HO_13.out⟩, ⟨blkst BK138.out⟩, ⟨blkst BK139.out⟩, ⟨bel HB.out⟩⟩
             case round =>
              clear H'
              try clear c1
              try clear c2
              try clear p2
              try clear c3
              try clear c4
              try clear c5
              try clear c6
              try clear p6
              try clear c7
              try clear c9
              try clear c10
              try clear c11
              try clear c16
              try clear c18
              try clear c21
              try clear c22
              try clear c26
              try clear c26b0
              try clear c26b1
              try clear c30
              try clear c31
              try clear c44
              try clear c44b0
              try clear c44b1
              try clear c45
              try clear c45b0
              try clear c45b1
              try clear c46
              try clear c46b0
              try clear c46b1
              try clear c47
              try clear c47b0
              try clear c47b1
              try clear c53
              try clear c54
              try clear c54b0
              try clear hcz12_0
              try clear hcz12_1
              try clear hcz17_0
              try clear hcz17_1
              try clear hcz19_0
              try clear hcz19_1
              try clear hcz32_0
              try clear hcz32_1
              try clear hcz33_0
              try clear hcz33_1
              try clear hcz35_0
              try clear hcz35_1
              try clear hcz36_0
              try clear hcz36_1
              try clear hcz38_0
              try clear hcz38_1
              try clear hcz39_0
              try clear hcz39_1
              try clear hcz41_0
              try clear hcz41_1
              try clear hcz42_0
              try clear hcz42_1
              try clear hfz12_0
              try clear hfz12_1
              try clear hfz17_0
              try clear hfz17_1
              try clear hfz19_0
              try clear hfz19_1
              try clear hfz32_0
              try clear hfz32_1
              try clear hfz33_0
              try clear hfz33_1
              try clear hfz35_0
              try clear hfz35_1
              try clear hfz36_0
              try clear hfz36_1
              try clear hfz38_0
              try clear hfz38_1
              try clear hfz39_0
              try clear hfz39_1
              try clear hfz41_0
              try clear hfz41_1
              try clear hfz42_0
              try clear hfz42_1
              try clear p2
              try clear p6
              obtain ⟨x16_4, rfl, HA, HK4, HO_5, HO_6, HO_10, HO_13, BK138, BK139, HB⟩ := hrel
              cases gk with
              | zero => exact absurd HA.out (by simp [galoislaw27_CosetLagrange.l1])
              | succ k4 =>
               have H := HA.out
               clear HA
               simp only [galoislaw27_CosetLagrange.l1] at H
               by_cases c55 : x16_4 < (t147.length : Int)
               ·rw [if_pos c55] at H
                have c55b0 : decide (x16_4 < (t147.length : Int)) = true := decide_eq_true c55
                clear c55
                have HC56 := Aside0.mk H
                clear H
                obtain ⟨Ao57, co57, eo57⟩ := Kd.S_slice HO_6.out
                subst eo57
                go_upto_region 17 with (fail)
                go_cut [112] (fun v112 wc => ∃ (kq : Nat) (x112_55 : Bool), v112 = .bool x112_55 ∧ Aside0 (galoislaw27_CosetLagrange.j4 kq t144 t147 t151 t153 t160 x15_3 x16_4 x112_55 a0_0 l0_1 a1_0 l1_1 = some r) ∧ Aside0 (kq ≤ k4) ∧ Aside0 (Kd.S (Kd.slice 3 (Kd.int .i64)) 43 wc w.heap.size (fun k_ => some k_ ≠ ((.slice Ao57 t147.length co57) : Value).ownBlock ∧ some k_ ≠ (v154 : Value).ownBlock ∧ some k_ ≠ (v161 : Value).ownBlock) v145 t144) ∧ Aside0 (Kd.S (Kd.slice 3 (Kd.int .i64)) 43 wc w.heap.size (fun k_ => some k_ ≠ (v145 : Value).ownBlock ∧ some k_ ≠ (v154 : Value).ownBlock ∧ some k_ ≠ (v161 : Value).ownBlock) (.slice Ao57 t147.length co57) t147) ∧ Aside0 (Kd.S (Kd.slice 3 (Kd.int .i64)) 43 wc w.heap.size (fun k_ => some k_ ≠ (v145 : Value).ownBlock ∧ some k_ ≠ ((.slice Ao57 t147.length co57) : Value).ownBlock ∧ some k_ ≠ (v161 : Value).ownBlock) v154 t153) ∧ Aside0 (Kd.R (Kd.int .i64) 3 wc w.heap.size (fun _ => True) v161 t160) ∧ Aside0 (wc.heap[gb138]? = some (.cells #[.int .i64 a0_0, (.slice A0_1 l0_1.length c0_1)] 24 (0, 0))) ∧ Aside0 (wc.heap[gb139]? = some (.cells #[.int .i64 a1_0, (.slice A1_1 l1_1.length c1_1)] 24 (0, 0))) ∧ Aside0 (Below w.heap.size w wc))
                case first =>
                 have H := HC56.out
                 clear HC56
                 by_cases c58 : 0 ≤ x15_3
                 ·rw [if_pos c58] at H
                  have c58b0 : decide (0 ≤ x15_3) = true := decide_eq_true c58
                  clear c58
                  (first|rw [c58b0] | (simp only [i64_w, i32_w];rw [c58b0]) | skip)
                  by_cases c59 : x15_3 < (t153.length : Int)
                  ·rw [if_pos c59] at H
                   have c59b0 : decide (x15_3 < (t153.length : Int)) = true := decide_eq_true c59
                   clear c59
                   by_cases c60 : ((rd_L1 t153 x15_3).length : Int) = a0_0
                   ·rw [if_pos c60] at H
                    have c60b0 : (((rd_L1 t153 x15_3).length : Int) == a0_0) = true := beq_iff_eq.mpr c60
                    have c60b1 : (((rd_L1 t153 x15_3).length : Int) != a0_0) = false := bne_eq_false_iff_eq.mpr c60
                    clear c60
                    replace H := Option.bind_eq_some_iff.mp H
                    obtain ⟨t166, A610, H⟩ := H
                    replace H : (galoislaw27_CosetLagrange.j4 k4 t144 t147 t151 t153 t160 x15_3 x16_4 (t166 != 0) a0_0 l0_1 a1_0 l1_1) = some r := H
                    have A61 := Aside0.mk A610
                    clear A610
                    have H' := Aside0.mk H
                    clear H
                    try go_wp2
                    have n0_ := Aside0.mk (Kd.S_drew HO_5.out)
                    have n1_ := Aside0.mk (Kd.S_drew HO_6.out)
                    have n2_ := Aside0.mk (Kd.S_drew HO_10.out)
                    have n3_ := Aside0.mk (Kd.R_drew HO_13.out)
                    have n4_ := Aside0.mk (blk_drew BK138.out)
                    have n5_ := Aside0.mk (blk_drew BK139.out)
                    have n6_ := Aside0.mk (below_drew1 HB.out)
                    clear HO_5
                    clear HO_6
                    clear HO_10
                    clear HO_13
                    clear BK138
                    clear BK139
                    clear HB
                    have HO_5 := n0_
                    have HO_6 := n1_
                    have HO_10 := n2_
                    have HO_13 := n3_
                    have BK138 := n4_
                    have BK139 := n5_
                    have HB := n6_
                    clear n0_ n1_ n2_ n3_ n4_ n5_ n6_
                    obtain ⟨Ao63, co63, eo63⟩ := Kd.S_slice HO_10.out
                    (first|subst eo63 | (injection eo63 with f1_ f2_ f3_;have f4_ := f1_.symm;have f5_ := f3_.symm;clear f1_ f2_ f3_;subst f4_;subst f5_))
                    have p164 : 0 ≤ (x15_3 : Int) := of_decide_eq_true (by assumption)
                    have q164 : x15_3 < (t153.length : Int) := of_decide_eq_true (by assumption)
                    obtain ⟨ad164, A164_0, c164_0, e164, hx164_0, hl164_0, hi164_0⟩ := at_L1 (Kd.S_reads' HO_10.out).2.2 x15_3 p164 q164
                    cases e164
                    obtain ⟨ce164, hce164, hMe164, hcc164⟩ := Kd.S_get HO_10.out [] x15_3 p164 (by first | exact q164 | exact of_decide_eq_true (by assumption) | (have e_ := (Kd.S_reads' HO_10.out).1;omega))
                    obtain ⟨ve164_0, rfl, ge164_0⟩ := hMe164
                    have hv164_0 := hcc164 0 _ rfl
                    rw [Nat.add_zero, show ((Kd.slice 3 (Kd.int .i64))).sz = 1 from rfl, Nat.mul_one] at hv164_0
                    replace hv164_0 := Option.some.inj (hv164_0.symm.trans hx164_0)
                    rw [hv164_0] at ge164_0
                    have HL164_0 := Aside0.mk (show Kd.R (Kd.int .i64) 3 _ _ _ _ (rd_L1 t153 x15_3) from ge164_0)
                    clear hv164_0 ge164_0
                    clear hcc164 hce164
                    have HR164_0 := Aside0.mk hi164_0
                    have HC164_0 := Aside0.mk hl164_0
                    clear hi164_0 hl164_0
                    replace p164 := eq_true p164
                    replace q164 := eq_true q164
                    have p165 : 0 ≤ (x15_3 : Int) := of_decide_eq_true (by assumption)
                    have q165 : x15_3 < (t153.length : Int) := of_decide_eq_true (by assumption)
                    obtain ⟨ad165, A165_0, c165_0, e165, hx165_0, hl165_0, hi165_0⟩ := at_L1 (Kd.S_reads' HO_10.out).2.2 x15_3 p165 q165
                    obtain rfl : ad164 = ad165 := (by injection e165)
                    obtain ⟨ce165, hce165, hMe165, hcc165⟩ := Kd.S_get HO_10.out [] x15_3 p165 (by first | exact q165 | exact of_decide_eq_true (by assumption) | (have e_ := (Kd.S_reads' HO_10.out).1;omega))
                    obtain ⟨ve165_0, rfl, ge165_0⟩ := hMe165
                    have hv165_0 := hcc165 0 _ rfl
                    rw [Nat.add_zero, show ((Kd.slice 3 (Kd.int .i64))).sz = 1 from rfl, Nat.mul_one] at hv165_0
                    replace hv165_0 := Option.some.inj (hv165_0.symm.trans hx165_0)
                    rw [hv165_0] at ge165_0
                    have HL165_0 := Aside0.mk (show Kd.R (Kd.int .i64) 3 _ _ _ _ (rd_L1 t153 x15_3) from ge165_0)
                    clear hv165_0 ge165_0
                    clear hcc165 hce165
                    have HR165_0 := Aside0.mk hi165_0
                    have HC165_0 := Aside0.mk hl165_0
                    clear hi165_0 hl165_0
                    replace p165 := eq_true p165
                    replace q165 := eq_true q165
                    have ea_ := Option.some.inj (hx164_0.symm.trans hx165_0)
                    injection ea_ with ea_ en_ ec_
                    subst ea_
                    subst ec_
                    clear en_
                    refine start_ (n := 16) (S := fun w' => w'.cell? ⟨gb138, 0, none⟩ = some (.int .i64 a0_0) ∧ w'.cell? ⟨gb138, 1, none⟩ = some (.slice A0_1 l0_1.length c0_1) ∧ w'.cell? (ad164.add (x15_3).toNat) = some (.slice A164_0 (rd_L1 t153 x15_3).length c164_0) ∧ w'.cell? (ad164.add (x15_3).toNat) = some (.slice A164_0 (rd_L1 t153 x15_3).length c164_0)) (ds := []) #[false, false, false, false, false, false, false, false, false, false, false, false, false, false, false, false] (by kernel_rfl) rfl rfl ⟨(blk_cell BK138.out 0).trans rfl, (blk_cell BK138.out 1).trans rfl, hx164_0, hx165_0⟩ (fun hHeld => ?_);refine with_tabW galoislaw27_CosetLagrange.tab17 galoislaw27_CosetLagrange.bits17 (fun HT_ HW_ => ?_)
                    generalize wr.drew = w62 at HO_5 HO_6 HO_10 HO_13 BK138 BK139 HB HL164_0 HL165_0 HR164_0 HR165_0 hx164_0 hx165_0 hHeld ⊢
                    refine pure_ (i := 0) (N := some 97) (v := ?_) (a' := ?_) #[true, false, false, false, false, false, false, false, false, false, false, false, false, false, false, false] rfl rfl (any_of HT_.out (by kernel_rfl)) (fun _ _ _ h => h) (Or.inl ⟨by rfl, ?_⟩) ?_ ?_
                    rotate_left
                    ·intro w'
                     go_simp
                     with_reducible rfl
                    rotate_left
                    ·simp only [Act.put, List.setIfInBounds_toArray, List.set_cons_zero, List.set_cons_succ, i64_w, i32_w]
                     rfl
                    refine pure_ (i := 1) (N := some 98) (v := ?_) (a' := ?_) #[true, true, false, false, false, false, false, false, false, false, false, false, false, false, false, false] rfl rfl (any_of HT_.out (by kernel_rfl)) (fun _ _ _ h => h) (Or.inl ⟨by rfl, ?_⟩) ?_ ?_
                    rotate_left
                    ·intro w'
                     go_simp
                     with_reducible rfl
                    rotate_left
                    ·simp only [Act.put, List.setIfInBounds_toArray, List.set_cons_zero, List.set_cons_succ, i64_w, i32_w]
                     rfl
                    refine pure_ (i := 2) (N := some 99) (v := ?_) (a' := ?_) #[true, true, true, false, false, false, false, false, false, false, false, false, false, false, false, false] rfl rfl (any_of HT_.out (by kernel_rfl)) (fun _ _ _ h => h) (Or.inl ⟨by rfl, ?_⟩) ?_ ?_
                    rotate_left
                    ·intro w'
                     go_simp
                     with_reducible rfl
                    rotate_left
                    ·simp only [Act.put, List.setIfInBounds_toArray, List.set_cons_zero, List.set_cons_succ, i64_w, i32_w]
                     rfl
                    refine pure_ (i := 5) (N := some 102) (v := ?_) (a' := ?_) #[true, true, true, false, false, true, false, false, false, false, false, false, false, false, false, false] rfl rfl (any_of HT_.out (by kernel_rfl)) (fun _ _ _ h => h) (Or.inl ⟨by rfl, ?_⟩) ?_ ?_
                    rotate_left
                    ·intro w'
                     go_simp
                     with_reducible rfl
                    rotate_left
                    ·simp only [Act.put, List.setIfInBounds_toArray, List.set_cons_zero, List.set_cons_succ, i64_w, i32_w]
                     rfl
                    refine take_ (i := 3) (N := some 100) (v := ?_) (a' := ?_) #[true, true, true, true, false, true, false, false, false, false, false, false, false, false, false, false] rfl rfl (take_ofW HT_.out HW_.out (by kernel_rfl)) (fun _ _ _ h => h) (Or.inl ⟨by rfl, ?_⟩) hHeld ?_ ?_
                    rotate_left
                    ·rintro w' ⟨s0, s1, s2, s3⟩
                     go_simp
                     with_reducible rfl
                    rotate_left
                    ·simp only [Act.put, List.setIfInBounds_toArray, List.set_cons_zero, List.set_cons_succ, i64_w, i32_w]
                     rfl
                    refine pure_ (i := 4) (N := some 101) (v := ?_) (a' := ?_) #[true, true, true, true, true, true, false, false, false, false, false, false, false, false, false, false] rfl rfl (any_of HT_.out (by kernel_rfl)) (fun _ _ _ h => h) (Or.inl ⟨by rfl, ?_⟩) ?_ ?_
                    rotate_left
                    ·intro w'
                     go_simp
                     with_reducible rfl
                    rotate_left
                    ·simp only [Act.put, List.setIfInBounds_toArray, List.set_cons_zero, List.set_cons_succ, i64_w, i32_w]
                     rfl
                    refine take_ (i := 6) (N := some 103) (v := ?_) (a' := ?_) #[true, true, true, true, true, true, true, false, false, false, false, false, false, false, false, false] rfl rfl (take_ofW HT_.out HW_.out (by kernel_rfl)) (fun _ _ _ h => h) (Or.inl ⟨by rfl, ?_⟩) hHeld ?_ ?_
                    rotate_left
                    ·rintro w' ⟨s0, s1, s2, s3⟩
                     go_simp
                     with_reducible rfl
                    rotate_left
                    ·simp only [Act.put, List.setIfInBounds_toArray, List.set_cons_zero, List.set_cons_succ, i64_w, i32_w]
                     rfl
                    refine pure_ (i := 7) (N := some 104) (v := ?_) (a' := ?_) #[true, true, true, true, true, true, true, true, false, false, false, false, false, false, false, false] rfl rfl (any_of HT_.out (by kernel_rfl)) (fun _ _ _ h => h) (Or.inl ⟨by rfl, ?_⟩) ?_ ?_
                    rotate_left
                    ·intro w'
                     go_simp
                     with_reducible rfl
                    rotate_left
                    ·simp only [Act.put, List.setIfInBounds_toArray, List.set_cons_zero, List.set_cons_succ, i64_w, i32_w]
                     rfl
                    refine pure_ (i := 8) (N := some 105) (v := ?_) (a' := ?_) #[true, true, true, true, true, true, true, true, true, false, false, false, false, false, false, false] rfl rfl (any_of HT_.out (by kernel_rfl)) (fun _ _ _ h => h) (Or.inl ⟨by rfl, ?_⟩) ?_ ?_
                    rotate_left
                    ·intro w'
                     go_simp
                     with_reducible rfl
                    rotate_left
                    ·simp only [Act.put, List.setIfInBounds_toArray, List.set_cons_zero, List.set_cons_succ, i64_w, i32_w]
                     rfl
                    refine pure_ (i := 9) (N := some 106) (v := ?_) (a' := ?_) #[true, true, true, true, true, true, true, true, true, true, false, false, false, false, false, false] rfl rfl (any_of HT_.out (by kernel_rfl)) (fun _ _ _ h => h) (Or.inl ⟨by rfl, ?_⟩) ?_ ?_
                    rotate_left
                    ·intro w'
                     go_simp
                     with_reducible rfl
                    rotate_left
                    ·simp only [Act.put, List.setIfInBounds_toArray, List.set_cons_zero, List.set_cons_succ, i64_w, i32_w]
                     rfl
                    refine pure_ (i := 10) (N := some 107) (v := ?_) (a' := ?_) #[true, true, true, true, true, true, true, true, true, true, true, false, false, false, false, false] rfl rfl (any_of HT_.out (by kernel_rfl)) (fun _ _ _ h => h) (Or.inl ⟨by rfl, ?_⟩) ?_ ?_
                    rotate_left
                    ·intro w'
                     go_simp
                     with_reducible rfl
                    rotate_left
                    ·simp only [Act.put, List.setIfInBounds_toArray, List.set_cons_zero, List.set_cons_succ, i64_w, i32_w]
                     rfl
                    refine pure_ (i := 11) (N := some 108) (v := ?_) (a' := ?_) #[true, true, true, true, true, true, true, true, true, true, true, true, false, false, false, false] rfl rfl (any_of HT_.out (by kernel_rfl)) (fun _ _ _ h => h) (Or.inl ⟨by rfl, ?_⟩) ?_ ?_
                    rotate_left
                    ·intro w'
                     go_simp
                     with_reducible rfl
                    rotate_left
                    ·simp only [Act.put, List.setIfInBounds_toArray, List.set_cons_zero, List.set_cons_succ, i64_w, i32_w]
                     rfl
                    refine take_ (i := 12) (N := some 109) (v := ?_) (a' := ?_) #[true, true, true, true, true, true, true, true, true, true, true, true, true, false, false, false] rfl rfl (take_ofW HT_.out HW_.out (by kernel_rfl)) (fun _ _ _ h => h) (Or.inl ⟨by rfl, ?_⟩) hHeld ?_ ?_
                    rotate_left
                    ·rintro w' ⟨s0, s1, s2, s3⟩
                     go_simp
                     with_reducible rfl
                    rotate_left
                    ·simp only [Act.put, List.setIfInBounds_toArray, List.set_cons_zero, List.set_cons_succ, i64_w, i32_w]
                     rfl
                    refine one_ (i := 13) (N := some 110) #[true, true, true, true, true, true, true, true, true, true, true, true, true, true, false, false] rfl rfl (one_of HT_.out (by kernel_rfl)) (by decide) (fun K hK => ?_)
                    refine goes_ Try.func33 (by kernel_rfl) rfl #[.slice A164_0 (rd_L1 t153 x15_3).length c164_0] (by rfl) rfl rfl (by (try simp only [List.map_toArray, List.map_cons, List.map_nil]);first | done | rfl | (simp only [List.length_drop, List.length_take];rfl)) ?_
                    with_reducible refine (galoisref22_Check.calls k4 _ _ (rd_L1 t153 x15_3) t166 _ ?side1 ?side2 A61.out).mono ?_
                    (case side1 => repeat (first|exact (by repeat (first|(with_reducible exact HR165_0.out) | (with_reducible refine Kd.C_alloc ?_ _) | (with_reducible refine Kd.C_drewN ?_ _) | (with_reducible refine Kd.C_drew ?_) | exact HR165_0.out)) | (with_reducible refine Kd.C_alloc ?_ _) | (with_reducible refine Kd.C_drewN ?_ _) | (with_reducible refine Kd.C_drew ?_)))
                    (case side2 => exact HC165_0.out)
                    rintro e w' ⟨rfl, ⟨nd, rfl⟩⟩
                    refine ⟨_, rfl, ?_⟩
                    refine hK.out _ _ ⟨(blk_cell BK138.out 0).trans rfl, (blk_cell BK138.out 1).trans rfl, hHeld.2.2.1, hHeld.2.2.2⟩ (fun hHeld => ?_)
                    clear hK K
                    refine norm_ (a' := ?_) ?_ ?_
                    rotate_left
                    ·show Act.put _ (some 110) _ = _
                     simp only [Act.put, List.setIfInBounds_toArray, List.set_cons_zero, List.set_cons_succ, i64_w, i32_w]
                     rfl
                    refine pure_ (i := 14) (N := some 111) (v := ?_) (a' := ?_) #[true, true, true, true, true, true, true, true, true, true, true, true, true, true, true, false] rfl rfl (any_of HT_.out (by kernel_rfl)) (fun _ _ _ h => h) (Or.inl ⟨by rfl, ?_⟩) ?_ ?_
                    rotate_left
                    ·intro w'
                     go_simp
                     with_reducible rfl
                    rotate_left
                    ·simp only [Act.put, List.setIfInBounds_toArray, List.set_cons_zero, List.set_cons_succ, i64_w, i32_w]
                     rfl
                    refine pure_ (i := 15) (N := some 112) (v := ?_) (a' := ?_) #[true, true, true, true, true, true, true, true, true, true, true, true, true, true, true, true] rfl rfl (any_of HT_.out (by kernel_rfl)) (fun _ _ _ h => h) (Or.inl ⟨by rfl, ?_⟩) ?_ ?_
                    rotate_left
                    ·intro w'
                     go_simp
                     with_reducible rfl
                    rotate_left
                    ·simp only [Act.put, List.setIfInBounds_toArray, List.set_cons_zero, List.set_cons_succ, i64_w, i32_w]
                     rfl
                    refine done_ (done_of HT_.out (by kernel_rfl)) ?_
                    try go_wp2
                    go_meet
                    case rel => exact ⟨_, ((t166 != 0)), (by first | rfl | (simp;done) | (simp [*];done)), H', ⟨by have := HJ2.out;have := HJ29.out;have := HK3.out;have := HK4.out;first | omega | exact Nat.le_refl _⟩, ⟨Sst HO_5.out⟩, ⟨Sst HO_6.out⟩, ⟨Sst HO_10.out⟩, ⟨Rst HO_13.out⟩, ⟨blkst BK138.out⟩, ⟨blkst BK139.out⟩, ⟨bel HB.out⟩⟩
                   ·rw [if_neg c60] at H
                    have c60b0 : (((rd_L1 t153 x15_3).length : Int) == a0_0) = false := beq_eq_false_iff_ne.mpr c60
                    have c60b1 : (((rd_L1 t153 x15_3).length : Int) != a0_0) = true := bne_iff_ne.mpr c60
                    have H' := Aside0.mk H
                    clear H
                    try go_wp2
                    have n0_ := Aside0.mk (Kd.S_drew HO_5.out)
                    have n1_ := Aside0.mk (Kd.S_drew HO_6.out)
                    have n2_ := Aside0.mk (Kd.S_drew HO_10.out)
                    have n3_ := Aside0.mk (Kd.R_drew HO_13.out)
                    have n4_ := Aside0.mk (blk_drew BK138.out)
                    have n5_ := Aside0.mk (blk_drew BK139.out)
                    have n6_ := Aside0.mk (below_drew1 HB.out)
                    clear HO_5
                    clear HO_6
                    clear HO_10
                    clear HO_13
                    clear BK138
                    clear BK139
                    clear HB
                    have HO_5 := n0_
                    have HO_6 := n1_
                    have HO_10 := n2_
                    have HO_13 := n3_
                    have BK138 := n4_
                    have BK139 := n5_
                    have HB := n6_
                    clear n0_ n1_ n2_ n3_ n4_ n5_ n6_
                    obtain ⟨Ao65, co65, eo65⟩ := Kd.S_slice HO_10.out
                    (first|subst eo65 | (injection eo65 with f1_ f2_ f3_;have f4_ := f1_.symm;have f5_ := f3_.symm;clear f1_ f2_ f3_;subst f4_;subst f5_))
                    have p164 : 0 ≤ (x15_3 : Int) := of_decide_eq_true (by assumption)
                    have q164 : x15_3 < (t153.length : Int) := of_decide_eq_true (by assumption)
                    obtain ⟨ad164, A164_0, c164_0, e164, hx164_0, hl164_0, hi164_0⟩ := at_L1 (Kd.S_reads' HO_10.out).2.2 x15_3 p164 q164
                    cases e164
                    obtain ⟨ce164, hce164, hMe164, hcc164⟩ := Kd.S_get HO_10.out [] x15_3 p164 (by first | exact q164 | exact of_decide_eq_true (by assumption) | (have e_ := (Kd.S_reads' HO_10.out).1;omega))
                    obtain ⟨ve164_0, rfl, ge164_0⟩ := hMe164
                    have hv164_0 := hcc164 0 _ rfl
                    rw [Nat.add_zero, show ((Kd.slice 3 (Kd.int .i64))).sz = 1 from rfl, Nat.mul_one] at hv164_0
                    replace hv164_0 := Option.some.inj (hv164_0.symm.trans hx164_0)
                    rw [hv164_0] at ge164_0
                    have HL164_0 := Aside0.mk (show Kd.R (Kd.int .i64) 3 _ _ _ _ (rd_L1 t153 x15_3) from ge164_0)
                    clear hv164_0 ge164_0
                    clear hcc164 hce164
                    have HR164_0 := Aside0.mk hi164_0
                    have HC164_0 := Aside0.mk hl164_0
                    clear hi164_0 hl164_0
                    replace p164 := eq_true p164
                    replace q164 := eq_true q164
                    refine start_ (n := 16) (S := fun w' => w'.cell? ⟨gb138, 0, none⟩ = some (.int .i64 a0_0) ∧ w'.cell? ⟨gb138, 1, none⟩ = some (.slice A0_1 l0_1.length c0_1) ∧ w'.cell? (ad164.add (x15_3).toNat) = some (.slice A164_0 (rd_L1 t153 x15_3).length c164_0)) (ds := []) #[false, false, false, false, false, false, false, false, false, false, false, false, false, false, false, false] (by kernel_rfl) rfl rfl ⟨(blk_cell BK138.out 0).trans rfl, (blk_cell BK138.out 1).trans rfl, hx164_0⟩ (fun hHeld => ?_);refine with_tabW galoislaw27_CosetLagrange.tab17 galoislaw27_CosetLagrange.bits17 (fun HT_ HW_ => ?_)
                    generalize wr.drew = w64 at HO_5 HO_6 HO_10 HO_13 BK138 BK139 HB HL164_0 HR164_0 hx164_0 hHeld ⊢
                    refine pure_ (i := 0) (N := some 97) (v := ?_) (a' := ?_) #[true, false, false, false, false, false, false, false, false, false, false, false, false, false, false, false] rfl rfl (any_of HT_.out (by kernel_rfl)) (fun _ _ _ h => h) (Or.inl ⟨by rfl, ?_⟩) ?_ ?_
                    rotate_left
                    ·intro w'
                     go_simp
                     with_reducible rfl
                    rotate_left
                    ·simp only [Act.put, List.setIfInBounds_toArray, List.set_cons_zero, List.set_cons_succ, i64_w, i32_w]
                     rfl
                    refine pure_ (i := 1) (N := some 98) (v := ?_) (a' := ?_) #[true, true, false, false, false, false, false, false, false, false, false, false, false, false, false, false] rfl rfl (any_of HT_.out (by kernel_rfl)) (fun _ _ _ h => h) (Or.inl ⟨by rfl, ?_⟩) ?_ ?_
                    rotate_left
                    ·intro w'
                     go_simp
                     with_reducible rfl
                    rotate_left
                    ·simp only [Act.put, List.setIfInBounds_toArray, List.set_cons_zero, List.set_cons_succ, i64_w, i32_w]
                     rfl
                    refine pure_ (i := 2) (N := some 99) (v := ?_) (a' := ?_) #[true, true, true, false, false, false, false, false, false, false, false, false, false, false, false, false] rfl rfl (any_of HT_.out (by kernel_rfl)) (fun _ _ _ h => h) (Or.inl ⟨by rfl, ?_⟩) ?_ ?_
                    rotate_left
                    ·intro w'
                     go_simp
                     with_reducible rfl
                    rotate_left
                    ·simp only [Act.put, List.setIfInBounds_toArray, List.set_cons_zero, List.set_cons_succ, i64_w, i32_w]
                     rfl
                    refine pure_ (i := 5) (N := some 102) (v := ?_) (a' := ?_) #[true, true, true, false, false, true, false, false, false, false, false, false, false, false, false, false] rfl rfl (any_of HT_.out (by kernel_rfl)) (fun _ _ _ h => h) (Or.inl ⟨by rfl, ?_⟩) ?_ ?_
                    rotate_left
                    ·intro w'
                     go_simp
                     with_reducible rfl
                    rotate_left
                    ·simp only [Act.put, List.setIfInBounds_toArray, List.set_cons_zero, List.set_cons_succ, i64_w, i32_w]
                     rfl
                    refine take_ (i := 3) (N := some 100) (v := ?_) (a' := ?_) #[true, true, true, true, false, true, false, false, false, false, false, false, false, false, false, false] rfl rfl (take_ofW HT_.out HW_.out (by kernel_rfl)) (fun _ _ _ h => h) (Or.inl ⟨by rfl, ?_⟩) hHeld ?_ ?_
                    rotate_left
                    ·rintro w' ⟨s0, s1, s2⟩
                     go_simp
                     with_reducible rfl
                    rotate_left
                    ·simp only [Act.put, List.setIfInBounds_toArray, List.set_cons_zero, List.set_cons_succ, i64_w, i32_w]
                     rfl
                    refine pure_ (i := 4) (N := some 101) (v := ?_) (a' := ?_) #[true, true, true, true, true, true, false, false, false, false, false, false, false, false, false, false] rfl rfl (any_of HT_.out (by kernel_rfl)) (fun _ _ _ h => h) (Or.inl ⟨by rfl, ?_⟩) ?_ ?_
                    rotate_left
                    ·intro w'
                     go_simp
                     with_reducible rfl
                    rotate_left
                    ·simp only [Act.put, List.setIfInBounds_toArray, List.set_cons_zero, List.set_cons_succ, i64_w, i32_w]
                     rfl
                    refine take_ (i := 6) (N := some 103) (v := ?_) (a' := ?_) #[true, true, true, true, true, true, true, false, false, false, false, false, false, false, false, false] rfl rfl (take_ofW HT_.out HW_.out (by kernel_rfl)) (fun _ _ _ h => h) (Or.inl ⟨by rfl, ?_⟩) hHeld ?_ ?_
                    rotate_left
                    ·rintro w' ⟨s0, s1, s2⟩
                     go_simp
                     with_reducible rfl
                    rotate_left
                    ·simp only [Act.put, List.setIfInBounds_toArray, List.set_cons_zero, List.set_cons_succ, i64_w, i32_w]
                     rfl
                    refine pure_ (i := 7) (N := some 104) (v := ?_) (a' := ?_) #[true, true, true, true, true, true, true, true, false, false, false, false, false, false, false, false] rfl rfl (any_of HT_.out (by kernel_rfl)) (fun _ _ _ h => h) (Or.inl ⟨by rfl, ?_⟩) ?_ ?_
                    rotate_left
                    ·intro w'
                     go_simp
                     with_reducible rfl
                    rotate_left
                    ·simp only [Act.put, List.setIfInBounds_toArray, List.set_cons_zero, List.set_cons_succ, i64_w, i32_w]
                     rfl
                    refine pure_ (i := 8) (N := some 105) (v := ?_) (a' := ?_) #[true, true, true, true, true, true, true, true, true, false, false, false, false, false, false, false] rfl rfl (any_of HT_.out (by kernel_rfl)) (fun _ _ _ h => h) (Or.inl ⟨by rfl, ?_⟩) ?_ ?_
                    rotate_left
                    ·intro w'
                     go_simp
                     with_reducible rfl
                    rotate_left
                    ·simp only [Act.put, List.setIfInBounds_toArray, List.set_cons_zero, List.set_cons_succ, i64_w, i32_w]
                     rfl
                    refine pure_ (i := 9) (N := some 106) (v := undef) (a' := ?_) #[true, true, true, true, true, true, true, true, true, true, false, false, false, false, false, false] rfl rfl (any_of HT_.out (by kernel_rfl)) (fun _ _ _ h => h) (Or.inr ⟨by rfl, rfl⟩) ?_ ?_
                    rotate_left
                    ·simp only [Act.put, List.setIfInBounds_toArray, List.set_cons_zero, List.set_cons_succ, i64_w, i32_w]
                     rfl
                    refine pure_ (i := 10) (N := some 107) (v := undef) (a' := ?_) #[true, true, true, true, true, true, true, true, true, true, true, false, false, false, false, false] rfl rfl (any_of HT_.out (by kernel_rfl)) (fun _ _ _ h => h) (Or.inr ⟨by rfl, rfl⟩) ?_ ?_
                    rotate_left
                    ·simp only [Act.put, List.setIfInBounds_toArray, List.set_cons_zero, List.set_cons_succ, i64_w, i32_w]
                     rfl
                    refine pure_ (i := 11) (N := some 108) (v := undef) (a' := ?_) #[true, true, true, true, true, true, true, true, true, true, true, true, false, false, false, false] rfl rfl (any_of HT_.out (by kernel_rfl)) (fun _ _ _ h => h) (Or.inr ⟨by rfl, rfl⟩) ?_ ?_
                    rotate_left
                    ·simp only [Act.put, List.setIfInBounds_toArray, List.set_cons_zero, List.set_cons_succ, i64_w, i32_w]
                     rfl
                    refine pure_ (i := 12) (N := some 109) (v := undef) (a' := ?_) #[true, true, true, true, true, true, true, true, true, true, true, true, true, false, false, false] rfl rfl (any_of HT_.out (by kernel_rfl)) (fun _ _ _ h => h) (Or.inr ⟨by rfl, rfl⟩) ?_ ?_
                    rotate_left
                    ·simp only [Act.put, List.setIfInBounds_toArray, List.set_cons_zero, List.set_cons_succ, i64_w, i32_w]
                     rfl
                    refine pure_ (i := 13) (N := some 110) (v := undef) (a' := ?_) #[true, true, true, true, true, true, true, true, true, true, true, true, true, true, false, false] rfl rfl (any_of HT_.out (by kernel_rfl)) (fun _ _ _ h => h) (Or.inr ⟨by rfl, rfl⟩) ?_ ?_
                    rotate_left
                    ·simp only [Act.put, List.setIfInBounds_toArray, List.set_cons_zero, List.set_cons_succ, i64_w, i32_w]
                     rfl
                    refine pure_ (i := 14) (N := some 111) (v := undef) (a' := ?_) #[true, true, true, true, true, true, true, true, true, true, true, true, true, true, true, false] rfl rfl (any_of HT_.out (by kernel_rfl)) (fun _ _ _ h => h) (Or.inr ⟨by rfl, rfl⟩) ?_ ?_
                    rotate_left
                    ·simp only [Act.put, List.setIfInBounds_toArray, List.set_cons_zero, List.set_cons_succ, i64_w, i32_w]
                     rfl
                    refine pure_ (i := 15) (N := some 112) (v := ?_) (a' := ?_) #[true, true, true, true, true, true, true, true, true, true, true, true, true, true, true, true] rfl rfl (any_of HT_.out (by kernel_rfl)) (fun _ _ _ h => h) (Or.inl ⟨by rfl, ?_⟩) ?_ ?_
                    rotate_left
                    ·intro w'
                     go_simp
                     with_reducible rfl
                    rotate_left
                    ·simp only [Act.put, List.setIfInBounds_toArray, List.set_cons_zero, List.set_cons_succ, i64_w, i32_w]
                     rfl
                    refine done_ (done_of HT_.out (by kernel_rfl)) ?_
                    try go_wp2
                    go_meet
                    case rel => exact ⟨_, (true), (by first | rfl | (simp;done) | (simp [*];done)), H', ⟨by have := HJ2.out;have := HJ29.out;have := HK3.out;have := HK4.out;first | omega | exact Nat.le_refl _⟩, ⟨Sst HO_5.out⟩, ⟨Sst HO_6.out⟩, ⟨Sst HO_10.out⟩, ⟨Rst HO_13.out⟩, ⟨blkst BK138.out⟩, ⟨blkst BK139.out⟩, ⟨bel HB.out⟩⟩
                  ·rw [if_neg c59] at H
                   exact absurd H (by simp)
                 ·rw [if_neg c58] at H
                  exact absurd H (by simp)
                case rest =>
                 clear HC56
                 try clear c1
                 try clear p1
                 try clear q1
                 try clear hx1
                 try clear c2
                 try clear p2
                 try clear c3
                 try clear c4
                 try clear c5
                 try clear c6
                 try clear p6
                 try clear c7
                 try clear c9
                 try clear c10
                 try clear c11
                 try clear c16
                 try clear p16
                 try clear q16
                 try clear hx16
                 try clear c18
                 try clear c21
                 try clear c22
                 try clear c26
                 try clear c26b0
                 try clear c26b1
                 try clear c30
                 try clear c31
                 try clear c33
                 try clear c44
                 try clear c44b0
                 try clear c44b1
                 try clear c45
                 try clear c45b0
                 try clear c45b1
                 try clear c46
                 try clear c46b0
                 try clear c46b1
                 try clear c47
                 try clear c47b0
                 try clear c47b1
                 try clear c53
                 try clear c54
                 try clear c54b0
                 try clear c55
                 try clear c55b0
                 try clear c58
                 try clear c58b0
                 try clear c59
                 try clear c59b0
                 try clear c60
                 try clear c60b0
                 try clear c60b1
                 try clear hcz12_0
                 try clear hcz12_1
                 try clear hcz17_0
                 try clear hcz17_1
                 try clear hcz19_0
                 try clear hcz19_1
                 try clear hcz32_0
                 try clear hcz32_1
                 try clear hcz33_0
                 try clear hcz33_1
                 try clear hcz35_0
                 try clear hcz35_1
                 try clear hcz36_0
                 try clear hcz36_1
                 try clear hcz38_0
                 try clear hcz38_1
                 try clear hcz39_0
                 try clear hcz39_1
                 try clear hcz41_0
                 try clear hcz41_1
                 try clear hcz42_0
                 try clear hcz42_1
                 try clear hfz12_0
                 try clear hfz12_1
                 try clear hfz17_0
                 try clear hfz17_1
                 try clear hfz19_0
                 try clear hfz19_1
                 try clear hfz32_0
                 try clear hfz32_1
                 try clear hfz33_0
                 try clear hfz33_1
                 try clear hfz35_0
                 try clear hfz35_1
                 try clear hfz36_0
                 try clear hfz36_1
                 try clear hfz38_0
                 try clear hfz38_1
                 try clear hfz39_0
                 try clear hfz39_1
                 try clear hfz41_0
                 try clear hfz41_1
                 try clear hfz42_0
                 try clear hfz42_1
                 try clear hx164_0
                 try clear hx165_0
                 try clear p164
                 try clear p165
                 try clear p2
                 try clear p6
                 try clear q164
                 try clear q165
                 obtain ⟨kq, x112_55, rfl, HA, HJ55, HO_5, HO_6, HO_10, HO_13, BK138, BK139, HB⟩ := hcut
                 cases kq with
                 | zero => exact absurd HA.out (by simp [galoislaw27_CosetLagrange.j4])
                 | succ kj55 =>
                  have H := HA.out
                  clear HA
                  simp only [galoislaw27_CosetLagrange.j4] at H
                  by_cases c66 : x112_55 = true
                  ·subst c66
                   have H1 : (some false) = some r := by rw [if_pos rfl] at H;exact H
                   clear H
                   have H := H1
                   clear H1
                   obtain rfl := Option.some.inj H
                   as_aux_lemma =>
                    go_wp2
                    go_ret
                    exact ⟨by first | rfl | (simp [errW_none, errW_some] <;> rfl) | (simp [*, errW_none, errW_some] <;> rfl), bel HB.out⟩
                  ·replace c66 := Bool.eq_false_iff.mpr c66
                   subst c66
                   have H1 : (if 0 ≤ x16_4 then (if x16_4 < (t147.length : Int) then (if 0 ≤ x15_3 then (if x15_3 < (t153.length : Int) then ((galoisref22_Mul.f kj55 (rd_L1 t147 x16_4) (rd_L1 t153 x15_3)).bind fun t169 => ((coset_Find.f kj55 a0_0 l0_1 a1_0 l1_1 t169).bind fun bt172 => (if bt172.2 = 0 then (galoislaw27_CosetLagrange.j5 kj55 t144 t147 t151 t153 t160 x15_3 x16_4 (bt172.1 != x15_3) a0_0 l0_1 a1_0 l1_1) else (galoislaw27_CosetLagrange.j5 kj55 t144 t147 t151 t153 t160 x15_3 x16_4 true a0_0 l0_1 a1_0 l1_1)))) else (none)) else (none)) else (none)) else (none)) = some r := by rw [if_neg (show ¬ (false = true) by decide)] at H;exact H
                   clear H
                   have H := H1
                   clear H1
                   by_cases c67 : 0 ≤ x16_4
                   ·rw [if_pos c67] at H
                    have c67b0 : decide (0 ≤ x16_4) = true := decide_eq_true c67
                    clear c67
                    by_cases c68 : x16_4 < (t147.length : Int)
                    ·rw [if_pos c68] at H
                     have c68b0 : decide (x16_4 < (t147.length : Int)) = true := decide_eq_true c68
                     clear c68
                     by_cases c69 : 0 ≤ x15_3
                     ·rw [if_pos c69] at H
                      have c69b0 : decide (0 ≤ x15_3) = true := decide_eq_true c69
                      clear c69
                      by_cases c70 : x15_3 < (t153.length : Int)
                      ·rw [if_pos c70] at H
                       have c70b0 : decide (x15_3 < (t153.length : Int)) = true := decide_eq_true c70
                       clear c70
                       replace H := Option.bind_eq_some_iff.mp H
                       obtain ⟨t169, A710, H⟩ := H
                       replace H : ((coset_Find.f kj55 a0_0 l0_1 a1_0 l1_1 t169).bind fun bt172 => (if bt172.2 = 0 then (galoislaw27_CosetLagrange.j5 kj55 t144 t147 t151 t153 t160 x15_3 x16_4 (bt172.1 != x15_3) a0_0 l0_1 a1_0 l1_1) else (galoislaw27_CosetLagrange.j5 kj55 t144 t147 t151 t153 t160 x15_3 x16_4 true a0_0 l0_1 a1_0 l1_1))) = some r := H
                       have A71 := Aside0.mk A710
                       clear A710
                       replace H := Option.bind_eq_some_iff.mp H
                       obtain ⟨⟨t172, t173⟩, A720, H⟩ := H
                       replace H : (if t173 = 0 then (galoislaw27_CosetLagrange.j5 kj55 t144 t147 t151 t153 t160 x15_3 x16_4 (t172 != x15_3) a0_0 l0_1 a1_0 l1_1) else (galoislaw27_CosetLagrange.j5 kj55 t144 t147 t151 t153 t160 x15_3 x16_4 true a0_0 l0_1 a1_0 l1_1)) = some r := H
                       have A72 := Aside0.mk A720
                       clear A720
                       have HC73 := Aside0.mk H
                       clear H
                       try go_wp2
                       have n0_ := Aside0.mk (Kd.S_drew HO_5.out)
                       have n1_ := Aside0.mk (Kd.S_drew HO_6.out)
                       have n2_ := Aside0.mk (Kd.S_drew HO_10.out)
                       have n3_ := Aside0.mk (Kd.R_drew HO_13.out)
                       have n4_ := Aside0.mk (blk_drew BK138.out)
                       have n5_ := Aside0.mk (blk_drew BK139.out)
                       have n6_ := Aside0.mk (below_drew1 HB.out)
                       clear HO_5
                       clear HO_6
                       clear HO_10
                       clear HO_13
                       clear BK138
                       clear BK139
                       clear HB
                       have HO_5 := n0_
                       have HO_6 := n1_
                       have HO_10 := n2_
                       have HO_13 := n3_
                       have BK138 := n4_
                       have BK139 := n5_
                       have HB := n6_
                       clear n0_ n1_ n2_ n3_ n4_ n5_ n6_
                       have p167 : 0 ≤ (x16_4 : Int) := of_decide_eq_true (by assumption)
                       have q167 : x16_4 < (t147.length : Int) := of_decide_eq_true (by assumption)
                       obtain ⟨ad167, A167_0, c167_0, e167, hx167_0, hl167_0, hi167_0⟩ := at_L1 (Kd.S_reads' HO_6.out).2.2 x16_4 p167 q167
                       cases e167
                       obtain ⟨ce167, hce167, hMe167, hcc167⟩ := Kd.S_get HO_6.out [] x16_4 p167 (by first | exact q167 | exact of_decide_eq_true (by assumption) | (have e_ := (Kd.S_reads' HO_6.out).1;omega))
                       obtain ⟨ve167_0, rfl, ge167_0⟩ := hMe167
                       have hv167_0 := hcc167 0 _ rfl
                       rw [Nat.add_zero, show ((Kd.slice 3 (Kd.int .i64))).sz = 1 from rfl, Nat.mul_one] at hv167_0
                       replace hv167_0 := Option.some.inj (hv167_0.symm.trans hx167_0)
                       rw [hv167_0] at ge167_0
                       have HL167_0 := Aside0.mk (show Kd.R (Kd.int .i64) 3 _ _ _ _ (rd_L1 t147 x16_4) from ge167_0)
                       clear hv167_0 ge167_0
                       clear hcc167 hce167
                       have HR167_0 := Aside0.mk hi167_0
                       have HC167_0 := Aside0.mk hl167_0
                       clear hi167_0 hl167_0
                       replace p167 := eq_true p167
                       replace q167 := eq_true q167
                       obtain ⟨Ao75, co75, eo75⟩ := Kd.S_slice HO_10.out
                       (first|subst eo75 | (injection eo75 with f1_ f2_ f3_;have f4_ := f1_.symm;have f5_ := f3_.symm;clear f1_ f2_ f3_;subst f4_;subst f5_))
                       have p168 : 0 ≤ (x15_3 : Int) := of_decide_eq_true (by assumption)
                       have q168 : x15_3 < (t153.length : Int) := of_decide_eq_true (by assumption)
                       obtain ⟨ad168, A168_0, c168_0, e168, hx168_0, hl168_0, hi168_0⟩ := at_L1 (Kd.S_reads' HO_10.out).2.2 x15_3 p168 q168
                       cases e168
                       obtain ⟨ce168, hce168, hMe168, hcc168⟩ := Kd.S_get HO_10.out [] x15_3 p168 (by first | exact q168 | exact of_decide_eq_true (by assumption) | (have e_ := (Kd.S_reads' HO_10.out).1;omega))
                       obtain ⟨ve168_0, rfl, ge168_0⟩ := hMe168
                       have hv168_0 := hcc168 0 _ rfl
                       rw [Nat.add_zero, show ((Kd.slice 3 (Kd.int .i64))).sz = 1 from rfl, Nat.mul_one] at hv168_0
                       replace hv168_0 := Option.some.inj (hv168_0.symm.trans hx168_0)
                       rw [hv168_0] at ge168_0
                       have HL168_0 := Aside0.mk (show Kd.R (Kd.int .i64) 3 _ _ _ _ (rd_L1 t153 x15_3) from ge168_0)
                       clear hv168_0 ge168_0
                       clear hcc168 hce168
                       have HR168_0 := Aside0.mk hi168_0
                       have HC168_0 := Aside0.mk hl168_0
                       clear hi168_0 hl168_0
                       replace p168 := eq_true p168
                       replace q168 := eq_true q168
                       refine start_ (n := 17) (S := fun w' => w'.cell? ⟨gb138, 0, none⟩ = some (.int .i64 a0_0) ∧ w'.cell? ⟨gb138, 1, none⟩ = some (.slice A0_1 l0_1.length c0_1) ∧ w'.cell? ⟨gb139, 0, none⟩ = some (.int .i64 a1_0) ∧ w'.cell? ⟨gb139, 1, none⟩ = some (.slice A1_1 l1_1.length c1_1) ∧ w'.cell? (ad167.add (x16_4).toNat) = some (.slice A167_0 (rd_L1 t147 x16_4).length c167_0) ∧ w'.cell? (ad168.add (x15_3).toNat) = some (.slice A168_0 (rd_L1 t153 x15_3).length c168_0)) (ds := []) #[false, false, false, false, false, false, false, false, false, false, false, false, false, false, false, false, false] (by kernel_rfl) rfl rfl ⟨(blk_cell BK138.out 0).trans rfl, (blk_cell BK138.out 1).trans rfl, (blk_cell BK139.out 0).trans rfl, (blk_cell BK139.out 1).trans rfl, hx167_0, hx168_0⟩ (fun hHeld => ?_);refine with_tabW galoislaw27_CosetLagrange.tab19 galoislaw27_CosetLagrange.bits19 (fun HT_ HW_ => ?_)
                       generalize wc.drew = w74 at HO_5 HO_6 HO_10 HO_13 BK138 BK139 HB HL167_0 HL168_0 HR167_0 HR168_0 hx167_0 hx168_0 hHeld ⊢
                       refine pure_ (i := 2) (N := some 116) (v := ?_) (a' := ?_) #[false, false, true, false, false, false, false, false, false, false, false, false, false, false, false, false, false] rfl rfl (any_of HT_.out (by kernel_rfl)) (fun _ _ _ h => h) (Or.inl ⟨by rfl, ?_⟩) ?_ ?_
                       rotate_left
                       ·intro w'
                        go_simp
                        with_reducible rfl
                       rotate_left
                       ·simp only [Act.put, List.setIfInBounds_toArray, List.set_cons_zero, List.set_cons_succ, i64_w, i32_w]
                        rfl
                       refine pure_ (i := 3) (N := some 117) (v := ?_) (a' := ?_) #[false, false, true, true, false, false, false, false, false, false, false, false, false, false, false, false, false] rfl rfl (any_of HT_.out (by kernel_rfl)) (fun _ _ _ h => h) (Or.inl ⟨by rfl, ?_⟩) ?_ ?_
                       rotate_left
                       ·intro w'
                        go_simp
                        with_reducible rfl
                       rotate_left
                       ·simp only [Act.put, List.setIfInBounds_toArray, List.set_cons_zero, List.set_cons_succ, i64_w, i32_w]
                        rfl
                       refine pure_ (i := 4) (N := some 118) (v := ?_) (a' := ?_) #[false, false, true, true, true, false, false, false, false, false, false, false, false, false, false, false, false] rfl rfl (any_of HT_.out (by kernel_rfl)) (fun _ _ _ h => h) (Or.inl ⟨by rfl, ?_⟩) ?_ ?_
                       rotate_left
                       ·intro w'
                        go_simp
                        with_reducible rfl
                       rotate_left
                       ·simp only [Act.put, List.setIfInBounds_toArray, List.set_cons_zero, List.set_cons_succ, i64_w, i32_w]
                        rfl
                       refine pure_ (i := 6) (N := some 120) (v := ?_) (a' := ?_) #[false, false, true, true, true, false, true, false, false, false, false, false, false, false, false, false, false] rfl rfl (any_of HT_.out (by kernel_rfl)) (fun _ _ _ h => h) (Or.inl ⟨by rfl, ?_⟩) ?_ ?_
                       rotate_left
                       ·intro w'
                        go_simp
                        with_reducible rfl
                       rotate_left
                       ·simp only [Act.put, List.setIfInBounds_toArray, List.set_cons_zero, List.set_cons_succ, i64_w, i32_w]
                        rfl
                       refine pure_ (i := 7) (N := some 121) (v := ?_) (a' := ?_) #[false, false, true, true, true, false, true, true, false, false, false, false, false, false, false, false, false] rfl rfl (any_of HT_.out (by kernel_rfl)) (fun _ _ _ h => h) (Or.inl ⟨by rfl, ?_⟩) ?_ ?_
                       rotate_left
                       ·intro w'
                        go_simp
                        with_reducible rfl
                       rotate_left
                       ·simp only [Act.put, List.setIfInBounds_toArray, List.set_cons_zero, List.set_cons_succ, i64_w, i32_w]
                        rfl
                       refine pure_ (i := 8) (N := some 122) (v := ?_) (a' := ?_) #[false, false, true, true, true, false, true, true, true, false, false, false, false, false, false, false, false] rfl rfl (any_of HT_.out (by kernel_rfl)) (fun _ _ _ h => h) (Or.inl ⟨by rfl, ?_⟩) ?_ ?_
                       rotate_left
                       ·intro w'
                        go_simp
                        with_reducible rfl
                       rotate_left
                       ·simp only [Act.put, List.setIfInBounds_toArray, List.set_cons_zero, List.set_cons_succ, i64_w, i32_w]
                        rfl
                       refine take_ (i := 0) (N := some 114) (v := ?_) (a' := ?_) #[true, false, true, true, true, false, true, true, true, false, false, false, false, false, false, false, false] rfl rfl (take_ofW HT_.out HW_.out (by kernel_rfl)) (fun _ _ _ h => h) (Or.inl ⟨by rfl, ?_⟩) hHeld ?_ ?_
                       rotate_left
                       ·rintro w' ⟨s0, s1, s2, s3, s4, s5⟩
                        go_simp
                        with_reducible rfl
                       rotate_left
                       ·simp only [Act.put, List.setIfInBounds_toArray, List.set_cons_zero, List.set_cons_succ, i64_w, i32_w]
                        rfl
                       refine take_ (i := 1) (N := some 115) (v := ?_) (a' := ?_) #[true, true, true, true, true, false, true, true, true, false, false, false, false, false, false, false, false] rfl rfl (take_ofW HT_.out HW_.out (by kernel_rfl)) (fun _ _ _ h => h) (Or.inl ⟨by rfl, ?_⟩) hHeld ?_ ?_
                       rotate_left
                       ·rintro w' ⟨s0, s1, s2, s3, s4, s5⟩
                        go_simp
                        with_reducible rfl
                       rotate_left
                       ·simp only [Act.put, List.setIfInBounds_toArray, List.set_cons_zero, List.set_cons_succ, i64_w, i32_w]
                        rfl
                       refine take_ (i := 5) (N := some 119) (v := ?_) (a' := ?_) #[true, true, true, true, true, true, true, true, true, false, false, false, false, false, false, false, false] rfl rfl (take_ofW HT_.out HW_.out (by kernel_rfl)) (fun _ _ _ h => h) (Or.inl ⟨by rfl, ?_⟩) hHeld ?_ ?_
                       rotate_left
                       ·rintro w' ⟨s0, s1, s2, s3, s4, s5⟩
                        go_simp
                        with_reducible rfl
                       rotate_left
                       ·simp only [Act.put, List.setIfInBounds_toArray, List.set_cons_zero, List.set_cons_succ, i64_w, i32_w]
                        rfl
                       refine take_ (i := 9) (N := some 123) (v := ?_) (a' := ?_) #[true, true, true, true, true, true, true, true, true, true, false, false, false, false, false, false, false] rfl rfl (take_ofW HT_.out HW_.out (by kernel_rfl)) (fun _ _ _ h => h) (Or.inl ⟨by rfl, ?_⟩) hHeld ?_ ?_
                       rotate_left
                       ·rintro w' ⟨s0, s1, s2, s3, s4, s5⟩
                        go_simp
                        with_reducible rfl
                       rotate_left
                       ·simp only [Act.put, List.setIfInBounds_toArray, List.set_cons_zero, List.set_cons_succ, i64_w, i32_w]
                        rfl
                       refine one_ (i := 10) (N := some 124) #[true, true, true, true, true, true, true, true, true, true, true, false, false, false, false, false, false] rfl rfl (one_of HT_.out (by kernel_rfl)) (by decide) (fun K hK => ?_)
                       refine goes_ Try.func34 (by kernel_rfl) rfl #[.slice A167_0 (rd_L1 t147 x16_4).length c167_0, .slice A168_0 (rd_L1 t153 x15_3).length c168_0] (by rfl) rfl rfl (by (try simp only [List.map_toArray, List.map_cons, List.map_nil]);first | done | rfl | (simp only [List.length_drop, List.length_take];rfl)) ?_
                       with_reducible refine (galoisref22_Mul.calls kj55 _ _ (rd_L1 t147 x16_4) _ _ (rd_L1 t153 x15_3) t169 _ ?side1 ?side2 ?side3 ?side4 A71.out).mono ?_
                       (case side1 => repeat (first|exact (by repeat (first|(with_reducible exact HR167_0.out) | (with_reducible refine Kd.C_alloc ?_ _) | (with_reducible refine Kd.C_drewN ?_ _) | (with_reducible refine Kd.C_drew ?_) | exact HR167_0.out)) | (with_reducible refine Kd.C_alloc ?_ _) | (with_reducible refine Kd.C_drewN ?_ _) | (with_reducible refine Kd.C_drew ?_)))
                       (case side2 => exact HC167_0.out)
                       (case side3 => repeat (first|exact (by repeat (first|(with_reducible exact HR168_0.out) | (with_reducible refine Kd.C_alloc ?_ _) | (with_reducible refine Kd.C_drewN ?_ _) | (with_reducible refine Kd.C_drew ?_) | exact HR168_0.out)) | (with_reducible refine Kd.C_alloc ?_ _) | (with_reducible refine Kd.C_drewN ?_ _) | (with_reducible refine Kd.C_drew ?_)))
                       (case side4 => exact HC168_0.out)
                       rintro e w76 ⟨v170, rfl, ho0, hb⟩
                       have HS4_ := (hb.cell (World.block_lt_of_cell? _ _ (hHeld.2.2.2.2.1))).trans (hHeld.2.2.2.2.1)
                       have HS5_ := (hb.cell (World.block_lt_of_cell? _ _ (hHeld.2.2.2.2.2))).trans (hHeld.2.2.2.2.2)
                       refine ⟨_, rfl, ?_⟩
                       have n0_ := Aside0.mk (Kd.S_elder' (Sst HO_5.out) (Kd.R_base ho0) hb)
                       have n1_ := Aside0.mk (Kd.S_elder' (Sst HO_6.out) (Kd.R_base ho0) hb)
                       have n2_ := Aside0.mk (Kd.S_elder' (Sst HO_10.out) (Kd.R_base ho0) hb)
                       have n3_ := Aside0.mk (Kd.R_elder' (Rst HO_13.out) (Kd.R_base ho0) hb)
                       have n4_ := Aside0.mk (Kd.R_elder' (Rst HL167_0.out) (Kd.R_base ho0) hb)
                       have n5_ := Aside0.mk (Kd.R_elder' (Rst HL168_0.out) (Kd.R_base ho0) hb)
                       have n6_ := Aside0.mk (Kd.R_lower (Kd.R_new' (Kd.R_new' (Kd.R_new' ho0 (Kd.R_lt (Rst HO_13.out))) (Kd.R_lt (Rst HL167_0.out))) (Kd.R_lt (Rst HL168_0.out))) (below_size (bel HB.out)))
                       have n7_ := Aside0.mk (blk_below (g := gb138) (o := .cells #[.int .i64 a0_0, .slice A0_1 l0_1.length c0_1] 24 (0, 0)) (blkst BK138.out) hb)
                       have n8_ := Aside0.mk (blk_below (g := gb139) (o := .cells #[.int .i64 a1_0, .slice A1_1 l1_1.length c1_1] 24 (0, 0)) (blkst BK139.out) hb)
                       have n9_ := Aside0.mk (Kd.C_below (by repeat (first|(with_reducible exact HR167_0.out) | (with_reducible refine Kd.C_alloc ?_ _) | (with_reducible refine Kd.C_drewN ?_ _) | (with_reducible refine Kd.C_drew ?_) | exact HR167_0.out)) hb)
                       have n10_ := Aside0.mk (Kd.C_below (by repeat (first|(with_reducible exact HR168_0.out) | (with_reducible refine Kd.C_alloc ?_ _) | (with_reducible refine Kd.C_drewN ?_ _) | (with_reducible refine Kd.C_drew ?_) | exact HR168_0.out)) hb)
                       have n11_ := Aside0.mk (below_step (bel HB.out) hb)
                       clear HO_5
                       clear HO_6
                       clear HO_10
                       clear HO_13
                       clear HL167_0
                       clear HL168_0
                       clear BK138
                       clear BK139
                       clear HR167_0
                       clear HR168_0
                       clear HB
                       have HO_5 := n0_
                       have HO_6 := n1_
                       have HO_10 := n2_
                       have HO_13 := n3_
                       have HL167_0 := n4_
                       have HL168_0 := n5_
                       have HO171 := n6_
                       have BK138 := n7_
                       have BK139 := n8_
                       have HR167_0 := n9_
                       have HR168_0 := n10_
                       have HB := n11_
                       clear n0_ n1_ n2_ n3_ n4_ n5_ n6_ n7_ n8_ n9_ n10_ n11_
                       (try clear hb)
                       (try clear hb2)
                       (try clear hk)
                       (try clear hi)
                       (try clear ho0)
                       obtain ⟨Ao77, co77, eo77⟩ := Kd.R_slice HO171.out
                       (first|subst eo77 | (injection eo77 with f1_ f2_ f3_;have f4_ := f1_.symm;have f5_ := f3_.symm;clear f1_ f2_ f3_;subst f4_;subst f5_))
                       refine hK.out _ _ ⟨(blk_cell BK138.out 0).trans rfl, (blk_cell BK138.out 1).trans rfl, (blk_cell BK139.out 0).trans rfl, (blk_cell BK139.out 1).trans rfl, HS4_, HS5_⟩ (fun hHeld => ?_)
                       clear hK K
                       refine norm_ (a' := ?_) ?_ ?_
                       rotate_left
                       ·show Act.put _ (some 124) _ = _
                        simp only [Act.put, List.setIfInBounds_toArray, List.set_cons_zero, List.set_cons_succ, i64_w, i32_w]
                        rfl
                       refine one_ (i := 11) (N := some 125) #[true, true, true, true, true, true, true, true, true, true, true, true, false, false, false, false, false] rfl rfl (one_of HT_.out (by kernel_rfl)) (by decide) (fun K hK => ?_)
                       refine goes_ Try.func23 (by kernel_rfl) rfl #[.agg #[.int .i64 a0_0, .slice A0_1 l0_1.length c0_1], .agg #[.int .i64 a1_0, .slice A1_1 l1_1.length c1_1], .slice Ao77 t169.length co77] (by rfl) rfl rfl (by (try simp only [List.map_toArray, List.map_cons, List.map_nil]);first | done | rfl | (simp only [List.length_drop, List.length_take];rfl)) ?_
                       with_reducible refine (coset_Find.calls kj55 a0_0 _ _ l0_1 a1_0 _ _ l1_1 _ _ t169 t172 t173 _ ?side1 ?side2 ?side3 ?side4 ?side5 ?side6 A72.out).mono ?_
                       (case side1 => exact Cst (Kd.C_below HR0_1.out HB.out))
                       (case side2 => exact HC0_1.out)
                       (case side3 => exact Cst (Kd.C_below HR1_1.out HB.out))
                       (case side4 => exact HC1_1.out)
                       (case side5 => repeat (first|exact (Kd.R_reads' HO171.out).2.2 | (with_reducible refine Kd.C_alloc ?_ _) | (with_reducible refine Kd.C_drewN ?_ _) | (with_reducible refine Kd.C_drew ?_)))
                       (case side6 => exact (Kd.R_reads' HO171.out).2.1)
                       rintro e w78 ⟨rfl, hb⟩
                       have HS4_ := (hb.cell (World.block_lt_of_cell? _ _ (hHeld.2.2.2.2.1))).trans (hHeld.2.2.2.2.1)
                       have HS5_ := (hb.cell (World.block_lt_of_cell? _ _ (hHeld.2.2.2.2.2))).trans (hHeld.2.2.2.2.2)
                       refine ⟨_, rfl, ?_⟩
                       have n0_ := Aside0.mk (Kd.S_below (Sst HO_5.out) hb)
                       have n1_ := Aside0.mk (Kd.S_below (Sst HO_6.out) hb)
                       have n2_ := Aside0.mk (Kd.S_below (Sst HO_10.out) hb)
                       have n3_ := Aside0.mk (Kd.R_below (Rst HO_13.out) hb)
                       have n4_ := Aside0.mk (Kd.R_below (Rst HL167_0.out) hb)
                       have n5_ := Aside0.mk (Kd.R_below (Rst HL168_0.out) hb)
                       have n6_ := Aside0.mk (Kd.R_below (Rst HO171.out) hb)
                       have n7_ := Aside0.mk (blk_below (g := gb138) (o := .cells #[.int .i64 a0_0, .slice A0_1 l0_1.length c0_1] 24 (0, 0)) (blkst BK138.out) hb)
                       have n8_ := Aside0.mk (blk_below (g := gb139) (o := .cells #[.int .i64 a1_0, .slice A1_1 l1_1.length c1_1] 24 (0, 0)) (blkst BK139.out) hb)
                       have n9_ := Aside0.mk (Kd.C_below (by repeat (first|(with_reducible exact HR167_0.out) | (with_reducible refine Kd.C_alloc ?_ _) | (with_reducible refine Kd.C_drewN ?_ _) | (with_reducible refine Kd.C_drew ?_) | exact HR167_0.out)) hb)
                       have n10_ := Aside0.mk (Kd.C_below (by repeat (first|(with_reducible exact HR168_0.out) | (with_reducible refine Kd.C_alloc ?_ _) | (with_reducible refine Kd.C_drewN ?_ _) | (with_reducible refine Kd.C_drew ?_) | exact HR168_0.out)) hb)
                       have n11_ := Aside0.mk (below_step (bel HB.out) hb)
                       clear HO_5
                       clear HO_6
                       clear HO_10
                       clear HO_13
                       clear HL167_0
                       clear HL168_0
                       clear HO171
                       clear BK138
                       clear BK139
                       clear HR167_0
                       clear HR168_0
                       clear HB
                       have HO_5 := n0_
                       have HO_6 := n1_
                       have HO_10 := n2_
                       have HO_13 := n3_
                       have HL167_0 := n4_
                       have HL168_0 := n5_
                       have HO171 := n6_
                       have BK138 := n7_
                       have BK139 := n8_
                       have HR167_0 := n9_
                       have HR168_0 := n10_
                       have HB := n11_
                       clear n0_ n1_ n2_ n3_ n4_ n5_ n6_ n7_ n8_ n9_ n10_ n11_
                       (try clear hb)
                       (try clear hb2)
                       (try clear hk)
                       (try clear hi)
                       refine hK.out _ _ ⟨(blk_cell BK138.out 0).trans rfl, (blk_cell BK138.out 1).trans rfl, (blk_cell BK139.out 0).trans rfl, (blk_cell BK139.out 1).trans rfl, HS4_, HS5_⟩ (fun hHeld => ?_)
                       clear hK K
                       refine norm_ (a' := ?_) ?_ ?_
                       rotate_left
                       ·show Act.put _ (some 125) _ = _
                        simp only [Act.put, List.setIfInBounds_toArray, List.set_cons_zero, List.set_cons_succ, i64_w, i32_w]
                        rfl
                       refine pure_ (i := 12) (N := some 113) (v := ?_) (a' := ?_) #[true, true, true, true, true, true, true, true, true, true, true, true, true, false, false, false, false] rfl rfl (any_of HT_.out (by kernel_rfl)) (fun _ _ _ h => h) (Or.inl ⟨by rfl, ?_⟩) ?_ ?_
                       rotate_left
                       ·intro w'
                        go_simp
                        with_reducible rfl
                       rotate_left
                       ·simp only [Act.put, List.setIfInBounds_toArray, List.set_cons_zero, List.set_cons_succ, i64_w, i32_w]
                        rfl
                       refine pure_ (i := 13) (N := some 126) (v := ?_) (a' := ?_) #[true, true, true, true, true, true, true, true, true, true, true, true, true, true, false, false, false] rfl rfl (any_of HT_.out (by kernel_rfl)) (fun _ _ _ h => h) (Or.inl ⟨by rfl, ?_⟩) ?_ ?_
                       rotate_left
                       ·intro w'
                        go_simp
                        with_reducible rfl
                       rotate_left
                       ·simp only [Act.put, List.setIfInBounds_toArray, List.set_cons_zero, List.set_cons_succ, i64_w, i32_w]
                        rfl
                       refine pure_ (i := 14) (N := some 127) (v := ?_) (a' := ?_) #[true, true, true, true, true, true, true, true, true, true, true, true, true, true, true, false, false] rfl rfl (any_of HT_.out (by kernel_rfl)) (fun _ _ _ h => h) (Or.inl ⟨by rfl, ?_⟩) ?_ ?_
                       rotate_left
                       ·intro w'
                        go_simp
                        with_reducible rfl
                       rotate_left
                       ·simp only [Act.put, List.setIfInBounds_toArray, List.set_cons_zero, List.set_cons_succ, i64_w, i32_w]
                        rfl
                       refine pure_ (i := 15) (N := some 17) (v := ?_) (a' := ?_) #[true, true, true, true, true, true, true, true, true, true, true, true, true, true, true, true, false] rfl rfl (any_of HT_.out (by kernel_rfl)) (fun _ _ _ h => h) (Or.inl ⟨by rfl, ?_⟩) ?_ ?_
                       rotate_left
                       ·intro w'
                        go_simp
                        with_reducible rfl
                       rotate_left
                       ·simp only [Act.put, List.setIfInBounds_toArray, List.set_cons_zero, List.set_cons_succ, i64_w, i32_w]
                        rfl
                       refine pure_ (i := 16) (N := some 18) (v := ?_) (a' := ?_) #[true, true, true, true, true, true, true, true, true, true, true, true, true, true, true, true, true] rfl rfl (any_of HT_.out (by kernel_rfl)) (fun _ _ _ h => h) (Or.inl ⟨by rfl, ?_⟩) ?_ ?_
                       rotate_left
                       ·intro w'
                        go_simp
                        with_reducible rfl
                       rotate_left
                       ·simp only [Act.put, List.setIfInBounds_toArray, List.set_cons_zero, List.set_cons_succ, i64_w, i32_w]
                        rfl
                       refine done_ (done_of HT_.out (by kernel_rfl)) ?_
                       go_upto_region 20 with (fail)
                       go_cut [134] (fun v134 wc => ∃ (kq : Nat) (x134_72 : Bool), v134 = .bool x134_72 ∧ Aside0 (galoislaw27_CosetLagrange.j5 kq t144 t147 t151 t153 t160 x15_3 x16_4 x134_72 a0_0 l0_1 a1_0 l1_1 = some r) ∧ Aside0 (kq ≤ kj55) ∧ Aside0 (Kd.S (Kd.slice 3 (Kd.int .i64)) 43 wc w.heap.size (fun k_ => some k_ ≠ ((.slice (some ad167) t147.length co57) : Value).ownBlock ∧ some k_ ≠ ((.slice (some ad168) t153.length co75) : Value).ownBlock ∧ some k_ ≠ (v161 : Value).ownBlock) v145 t144) ∧ Aside0 (Kd.S (Kd.slice 3 (Kd.int .i64)) 43 wc w.heap.size (fun k_ => some k_ ≠ (v145 : Value).ownBlock ∧ some k_ ≠ ((.slice (some ad168) t153.length co75) : Value).ownBlock ∧ some k_ ≠ (v161 : Value).ownBlock) (.slice (some ad167) t147.length co57) t147) ∧ Aside0 (Kd.S (Kd.slice 3 (Kd.int .i64)) 43 wc w.heap.size (fun k_ => some k_ ≠ (v145 : Value).ownBlock ∧ some k_ ≠ ((.slice (some ad167) t147.length co57) : Value).ownBlock ∧ some k_ ≠ (v161 : Value).ownBlock) (.slice (some ad168) t153.length co75) t153) ∧ Aside0 (Kd.R (Kd.int .i64) 3 wc w.heap.size (fun _ => True) v161 t160) ∧ Aside0 (wc.heap[gb138]? = some (.cells #[.int .i64 a0_0, (.slice A0_1 l0_1.length c0_1)] 24 (0, 0))) ∧ Aside0 (wc.heap[gb139]? = some (.cells #[.int .i64 a1_0, (.slice A1_1 l1_1.length c1_1)] 24 (0, 0))) ∧ Aside0 (Kd.C (Kd.int .i64) wc A167_0 (rd_L1 t147 x16_4).length (rd_L1 t147 x16_4)) ∧ Aside0 (Kd.C (Kd.int .i64) wc A168_0 (rd_L1 t153 x15_3).length (rd_L1 t153 x15_3)) ∧ Aside0 (Below w.heap.size w wc))
                       case first =>
                        have H := HC73.out
                        clear HC73
                        by_cases c79 : t173 = 0
                        ·rw [if_pos c79] at H
                         have c79b0 : (t173 == 0) = true := beq_iff_eq.mpr c79
                         have c79b1 : (t173 != 0) = false := bne_eq_false_iff_eq.mpr c79
                         clear c79
                         (first|rw [c79b0] | (simp only [i64_w, i32_w];rw [c79b0]) | skip)
                         have H' := Aside0.mk H
                         clear H
                         as_aux_lemma =>
                          go_wp2
                          go_meet
                          case rel => exact ⟨_, ((t172 != x15_3)), (by first | rfl | (simp;done) | (simp [*];done)), H', ⟨by have := HJ2.out;have := HJ29.out;have := HK3.out;have := HK4.out;have := HJ55.out;first | omega | exact Nat.le_refl _⟩, ⟨by (with_reducible repeat (first|apply Kd.S_alloc | apply Kd.S_drewN | apply Kd.S_drew));exact Kd.S_mono HO_5.out (fun _ hk => ⟨hk.1.1, ⟨hk.1.2.1, hk.1.2.2⟩⟩)⟩, ⟨by (with_reducible repeat (first|apply Kd.S_alloc | apply Kd.S_drewN | apply Kd.S_drew));exact Kd.S_mono HO_6.out (fun _ hk => ⟨hk.1.1, ⟨hk.1.2.1, hk.1.2.2⟩⟩)⟩, ⟨by (with_reducible repeat (first|apply Kd.S_alloc | apply Kd.S_drewN | apply Kd.S_drew));exact Kd.S_mono HO_10.out (fun _ hk => ⟨hk.1.1, ⟨hk.1.2.1, hk.1.2.2⟩⟩)⟩, ⟨by (with_reducible repeat (first|apply Kd.R_alloc | apply Kd.R_drewN | apply Kd.R_drew));exact Kd.R_mono HO_13.out (fun _ hk => trivial)⟩, ⟨blkst BK138.out⟩, ⟨blkst BK139.out⟩, ⟨by repeat (first|(with_reducible exact HR167_0.out) | (with_reducible refine Kd.C_alloc ?_ _) | (with_reducible refine Kd.C_drewN ?_ _) | (with_reducible refine Kd.C_drew ?_) | exact HR167_0.out)⟩, ⟨by repeat (first|(with_reducible exact HR168_0.out) | (with_reducible refine Kd.C_alloc ?_ _) | (with_reducible refine Kd.C_drewN ?_ _) | (with_reducible refine Kd.C_drew ?_) | exact HR168_0.out)⟩, ⟨bel HB.out⟩⟩
                        ·rw [if_neg c79] at H
                         have c79b0 : (t173 == 0) = false := beq_eq_false_iff_ne.mpr c79
                         have c79b1 : (t173 != 0) = true := bne_iff_ne.mpr c79
                         (first|rw [c79b0] | (simp only [i64_w, i32_w];rw [c79b0]) | skip)
                         have H' := Aside0.mk H
                         clear H
                         as_aux_lemma =>
                          go_wp2
                          go_meet
                          case rel => exact ⟨_, (true), (by first | rfl | (simp;done) | (simp [*];done)), H', ⟨by have := HJ2.out;have := HJ29.out;have := HK3.out;have := HK4.out;have := HJ55.out;first | omega | exact Nat.le_refl _⟩, ⟨by (with_reducible repeat (first|apply Kd.S_alloc | apply Kd.S_drewN | apply Kd.S_drew));exact Kd.S_mono HO_5.out (fun _ hk => ⟨hk.1.1, ⟨hk.1.2.1, hk.1.2.2⟩⟩)⟩, ⟨by (with_reducible repeat (first|apply Kd.S_alloc | apply Kd.S_drewN | apply Kd.S_drew));exact Kd.S_mono HO_6.out (fun _ hk => ⟨hk.1.1, ⟨hk.1.2.1, hk.1.2.2⟩⟩)⟩, ⟨by (with_reducible repeat (first|apply Kd.S_alloc | apply Kd.S_drewN | apply Kd.S_drew));exact Kd.S_mono HO_10.out (fun _ hk => ⟨hk.1.1, ⟨hk.1.2.1, hk.1.2.2⟩⟩)⟩, ⟨by (with_reducible repeat (first|apply Kd.R_alloc | apply Kd.R_drewN | apply Kd.R_drew));exact Kd.R_mono HO_13.out (fun _ hk => trivial)⟩, ⟨blkst BK138.out⟩, ⟨blkst BK139.out⟩, ⟨by repeat (first|(with_reducible exact HR167_0.out) | (with_reducible refine Kd.C_alloc ?_ _) | (with_reducible refine Kd.C_drewN ?_ _) | (with_reducible refine Kd.C_drew ?_) | exact HR167_0.out)⟩, ⟨by repeat (first|(with_reducible exact HR168_0.out) | (with_reducible refine Kd.C_alloc ?_ _) | (with_reducible refine Kd.C_drewN ?_ _) | (with_reducible refine Kd.C_drew ?_) | exact HR168_0.out)⟩, ⟨bel HB.out⟩⟩
                       case rest =>
                        clear HC73
                        try clear c1
                        try clear p1
                        try clear q1
                        try clear hx1
                        try clear c2
                        try clear p2
                        try clear c3
                        try clear c4
                        try clear c5
                        try clear c6
                        try clear p6
                        try clear c7
                        try clear c9
                        try clear c10
                        try clear c11
                        try clear c16
                        try clear p16
                        try clear q16
                        try clear hx16
                        try clear c18
                        try clear c21
                        try clear c22
                        try clear c23
                        try clear c26
                        try clear c26b0
                        try clear c26b1
                        try clear c30
                        try clear c31
                        try clear c33
                        try clear c34
                        try clear c44
                        try clear c44b0
                        try clear c44b1
                        try clear c45
                        try clear c45b0
                        try clear c45b1
                        try clear c46
                        try clear c46b0
                        try clear c46b1
                        try clear c47
                        try clear c47b0
                        try clear c47b1
                        try clear c53
                        try clear c54
                        try clear c54b0
                        try clear c55
                        try clear c55b0
                        try clear c58
                        try clear c58b0
                        try clear c59
                        try clear c59b0
                        try clear c60
                        try clear c60b0
                        try clear c60b1
                        try clear c66
                        try clear c67
                        try clear c67b0
                        try clear c68
                        try clear c68b0
                        try clear c69
                        try clear c69b0
                        try clear c70
                        try clear c70b0
                        try clear c79
                        try clear c79b0
                        try clear c79b1
                        try clear hcz12_0
                        try clear hcz12_1
                        try clear hcz17_0
                        try clear hcz17_1
                        try clear hcz19_0
                        try clear hcz19_1
                        try clear hcz32_0
                        try clear hcz32_1
                        try clear hcz33_0
                        try clear hcz33_1
                        try clear hcz35_0
                        try clear hcz35_1
                        try clear hcz36_0
                        try clear hcz36_1
                        try clear hcz38_0
                        try clear hcz38_1
                        try clear hcz39_0
                        try clear hcz39_1
                        try clear hcz41_0
                        try clear hcz41_1
                        try clear hcz42_0
                        try clear hcz42_1
                        try clear hfz12_0
                        try clear hfz12_1
                        try clear hfz17_0
                        try clear hfz17_1
                        try clear hfz19_0
                        try clear hfz19_1
                        try clear hfz32_0
                        try clear hfz32_1
                        try clear hfz33_0
                        try clear hfz33_1
                        try clear hfz35_0
                        try clear hfz35_1
                        try clear hfz36_0
                        try clear hfz36_1
                        try clear hfz38_0
                        try clear hfz38_1
                        try clear hfz39_0
                        try clear hfz39_1
                        try clear hfz41_0
                        try clear hfz41_1
                        try clear hfz42_0
                        try clear hfz42_1
                        try clear hx164_0
                        try clear hx165_0
                        try clear hx167_0
                        try clear hx168_0
                        try clear p1
                        try clear p16
                        try clear p164
                        try clear p165
                        try clear p167
                        try clear p168
                        try clear p2
                        try clear p6
                        try clear q1
                        try clear q16
                        try clear q164
                        try clear q165
                        try clear q167
                        try clear q168
                        obtain ⟨kq, x134_72, rfl, HA, HJ72, HO_5, HO_6, HO_10, HO_13, BK138, BK139, HR167_0, HR168_0, HB⟩ := hcut
                        cases kq with
                        | zero => exact absurd HA.out (by simp [galoislaw27_CosetLagrange.j5])
                        | succ kj72 =>
                         have H := HA.out
                         clear HA
                         simp only [galoislaw27_CosetLagrange.j5] at H
                         by_cases c80 : x134_72 = true
                         ·subst c80
                          have H1 : (some false) = some r := by rw [if_pos rfl] at H;exact H
                          clear H
                          have H := H1
                          clear H1
                          obtain rfl := Option.some.inj H
                          as_aux_lemma =>
                           go_wp2
                           go_ret
                           exact ⟨by first | rfl | (simp [errW_none, errW_some] <;> rfl) | (simp [*, errW_none, errW_some] <;> rfl), bel HB.out⟩
                         ·replace c80 := Bool.eq_false_iff.mpr c80
                          subst c80
                          have H1 : (if (wrap64 ((t144.length : Int) * (t147.length : Int))) > 600 then (galoislaw27_CosetLagrange.l0 kj72 t144 t147 t151 t153 t160 (wrap64 (x15_3 + 1)) a0_0 l0_1 a1_0 l1_1) else (galoislaw27_CosetLagrange.l1 kj72 t144 t147 t151 t153 t160 x15_3 (wrap64 (x16_4 + 1)) a0_0 l0_1 a1_0 l1_1)) = some r := by rw [if_neg (show ¬ (false = true) by decide)] at H;exact H
                          clear H
                          have H := H1
                          clear H1
                          by_cases c81 : (wrap64 ((t144.length : Int) * (t147.length : Int))) > 600
                          ·rw [if_pos c81] at H
                           have c81b0 : decide (600 < (wrap64 ((t144.length : Int) * (t147.length : Int)))) = true := decide_eq_true c81
                           clear c81
                           have H' := Aside0.mk H
                           clear H
                           obtain ⟨Ao82, co82, eo82⟩ := Kd.S_slice HO_5.out
                           subst eo82
                           as_aux_lemma =>
                            go_wp2
                            go_roundg kj72
                            case measure => have := HJ2.out;have := HJ29.out;have := HK3.out;have := HK4.out;have := HJ55.out;have := HJ72.out;omega
                            case rel => exact ⟨(wrap64 (x15_3 + 1)), (by first | rfl | (simp;done) | (simp [*];done)), H', ⟨by have := HJ2.out;have := HJ29.out;have := HK3.out;have := HK4.out;have := HJ55.out;have := HJ72.out;omega⟩, ⟨Sst HO_5.out⟩, ⟨Sst HO_6.out⟩, ⟨Sst HO_10.out⟩, ⟨Rst HO_13.out⟩, ⟨blkst BK138.out⟩, ⟨blkst BK139.out⟩, ⟨bel HB.out⟩⟩
                          ·rw [if_neg c81] at H
                           have c81b0 : decide (600 < (wrap64 ((t144.length : Int) * (t147.length : Int)))) = false := decide_eq_false c81
                           clear c81
                           have H' := Aside0.mk H
                           clear H
                           obtain ⟨Ao83, co83, eo83⟩ := Kd.S_slice HO_5.out
                           subst eo83
                           as_aux_lemma =>
                            go_wp2
                            go_roundg kj72
                            case measure => have := HJ2.out;have := HJ29.out;have := HK3.out;have := HK4.out;have := HJ55.out;have := HJ72.out;omega
                            case rel => exact ⟨(wrap64 (x16_4 + 1)), (by first | rfl | (simp;done) | (simp [*];done)), H', ⟨by have := HJ2.out;have := HJ29.out;have := HK3.out;have := HK4.out;have := HJ55.out;have := HJ72.out;omega⟩, ⟨Sst HO_5.out⟩, ⟨Sst HO_6.out⟩, ⟨Sst HO_10.out⟩, ⟨Rst HO_13.out⟩, ⟨blkst BK138.out⟩, ⟨blkst BK139.out⟩, ⟨bel HB.out⟩⟩
                      ·rw [if_neg c70] at H
                       exact absurd H (by simp)
                     ·rw [if_neg c69] at H
                      exact absurd H (by simp)
                    ·rw [if_neg c68] at H
                     exact absurd H (by simp)
                   ·rw [if_neg c67] at H
                    exact absurd H (by simp)
               ·rw [if_neg c55] at H
                have c55b0 : decide (x16_4 < (t147.length : Int)) = false := decide_eq_false c55
                clear c55
                have H' := Aside0.mk H
                clear H
                obtain ⟨Ao84, co84, eo84⟩ := Kd.S_slice HO_6.out
                subst eo84
                as_aux_lemma =>
                 go_wp2
                 go_roundg k4
                 case measure => have := HJ2.out;have := HJ29.out;have := HK3.out;have := HK4.out;omega
                 case rel => exact ⟨(wrap64 (x15_3 + 1)), (by first | rfl | (simp;done) | (simp [*];done)), H', ⟨by have := HJ2.out;have := HJ29.out;have := HK3.out;have := HK4.out;omega⟩, ⟨Sst HO_5.out⟩, ⟨Sst HO_6.out⟩, ⟨Sst HO_10.out⟩, ⟨Rst HO_13.out⟩, ⟨blkst BK138.out⟩, ⟨blkst BK139.out⟩, ⟨bel HB.out⟩⟩
           ·rw [if_neg c54] at H
            have c54b0 : decide (x15_3 < t151) = false := decide_eq_false c54
            clear c54
            have H' := Aside0.mk H
            clear H
            as_aux_lemma =>
             go_wp2
             go_loopg [19, 20] k3 (fun kq v19 v20 w' => ∃ (x19_4 : Int) (x20_4 : Int), v19 = .int .i64 x19_4 ∧ v20 = .int .i64 x20_4 ∧ Aside0 (galoislaw27_CosetLagrange.l2 kq t144 t160 x19_4 x20_4 = some r) ∧ Aside0 (kq ≤ k3) ∧ Aside0 (Kd.S (Kd.slice 3 (Kd.int .i64)) 43 w' w.heap.size (fun k_ => some k_ ≠ (v161 : Value).ownBlock) v145 t144) ∧ Aside0 (Kd.R (Kd.int .i64) 3 w' w.heap.size (fun _ => True) v161 t160) ∧ Aside0 (w'.heap[gb138]? = some (.cells #[.int .i64 a0_0, (.slice A0_1 l0_1.length c0_1)] 24 (0, 0))) ∧ Aside0 (w'.heap[gb139]? = some (.cells #[.int .i64 a1_0, (.slice A1_1 l1_1.length c1_1)] 24 (0, 0))) ∧ Aside0 (Below w.heap.size w w'))
             case atStart => exact ⟨(0), (0), (by first | rfl | (simp;done) | (simp [*];done)), (by first | rfl | (simp;done) | (simp [*];done)), H', ⟨Nat.le_refl _⟩, ⟨by (with_reducible repeat (first|apply Kd.S_alloc | apply Kd.S_drewN | apply Kd.S_drew));exact Kd.S_mono HO_5.out (fun _ hk => hk.2.2)⟩, ⟨Rst HO_13.out⟩, ⟨blkst BK138.out⟩, ⟨blkst BK139.out⟩, ⟨bel HB.out⟩⟩
             case round =>
              clear H'
              try clear c1
              try clear p1
              try clear q1
              try clear hx1
              try clear c2
              try clear p2
              try clear c3
              try clear c4
              try clear c5
              try clear c6
              try clear p6
              try clear c7
              try clear c8
              try clear c9
              try clear c10
              try clear c11
              try clear c16
              try clear p16
              try clear q16
              try clear hx16
              try clear c18
              try clear c21
              try clear c22
              try clear c23
              try clear c26
              try clear c26b0
              try clear c26b1
              try clear c30
              try clear c31
              try clear c33
              try clear c34
              try clear c44
              try clear c44b0
              try clear c44b1
              try clear c45
              try clear c45b0
              try clear c45b1
              try clear c46
              try clear c46b0
              try clear c46b1
              try clear c47
              try clear c47b0
              try clear c47b1
              try clear c53
              try clear c54
              try clear c54b0
              try clear c55
              try clear c55b0
              try clear c58
              try clear c58b0
              try clear c59
              try clear c59b0
              try clear c60
              try clear c60b0
              try clear c60b1
              try clear p64
              try clear c66
              try clear c67
              try clear c67b0
              try clear c68
              try clear c68b0
              try clear c69
              try clear c69b0
              try clear c70
              try clear c70b0
              try clear c79
              try clear c79b0
              try clear c79b1
              try clear c80
              try clear c81
              try clear c81b0
              try clear hcz12_0
              try clear hcz12_1
              try clear hcz17_0
              try clear hcz17_1
              try clear hcz19_0
              try clear hcz19_1
              try clear hcz32_0
              try clear hcz32_1
              try clear hcz33_0
              try clear hcz33_1
              try clear hcz35_0
              try clear hcz35_1
              try clear hcz36_0
              try clear hcz36_1
              try clear hcz38_0
              try clear hcz38_1
              try clear hcz39_0
              try clear hcz39_1
              try clear hcz41_0
              try clear hcz41_1
              try clear hcz42_0
              try clear hcz42_1
              try clear hfz12_0
              try clear hfz12_1
              try clear hfz17_0
              try clear hfz17_1
              try clear hfz19_0
              try clear hfz19_1
              try clear hfz32_0
              try clear hfz32_1
              try clear hfz33_0
              try clear hfz33_1
              try clear hfz35_0
              try clear hfz35_1
              try clear hfz36_0
              try clear hfz36_1
              try clear hfz38_0
              try clear hfz38_1
              try clear hfz39_0
              try clear hfz39_1
              try clear hfz41_0
              try clear hfz41_1
              try clear hfz42_0
              try clear hfz42_1
              try clear hx164_0
              try clear hx165_0
              try clear hx167_0
              try clear hx168_0
              try clear p1
              try clear p16
              try clear p164
              try clear p165
              try clear p167
              try clear p168
              try clear p2
              try clear p6
              try clear q1
              try clear q16
              try clear q164
              try clear q165
              try clear q167
              try clear q168
              obtain ⟨x19_4, x20_4, rfl, rfl, HA, HK4, HO_5, HO_13, BK138, BK139, HB⟩ := hrel
              cases gk with
              | zero => exact absurd HA.out (by simp [galoislaw27_CosetLagrange.l2])
              | succ k4 =>
               have H := HA.out
               clear HA
               simp only [galoislaw27_CosetLagrange.l2] at H
               by_cases c85 : x20_4 < (t160.length : Int)
               ·rw [if_pos c85] at H
                have c85b0 : decide (x20_4 < (t160.length : Int)) = true := decide_eq_true c85
                clear c85
                by_cases c86 : 0 ≤ x20_4
                ·rw [if_pos c86] at H
                 have c86b0 : decide (0 ≤ x20_4) = true := decide_eq_true c86
                 clear c86
                 have H' := Aside0.mk H
                 clear H
                 obtain ⟨Ao87, co87, eo87⟩ := Kd.R_slice HO_13.out
                 subst eo87
                 have p174 : 0 ≤ (x20_4 : Int) := of_decide_eq_true (by assumption)
                 have q174 : x20_4 < (t160.length : Int) := of_decide_eq_true (by assumption)
                 obtain ⟨ad174, e174, hx174_0⟩ := Kd.at_int (Kd.R_reads' HO_13.out).2.2 x20_4 p174 q174
                 cases e174
                 replace p174 := eq_true p174
                 replace q174 := eq_true q174
                 as_aux_lemma =>
                  go_wp2
                  go_roundg k4
                  case measure => have := HJ2.out;have := HJ29.out;have := HK3.out;have := HK4.out;omega
                  case rel => exact ⟨(wrap64 (x19_4 + (rd t160 x20_4))), (wrap64 (x20_4 + 1)), (by first | rfl | (simp;done) | (simp [*];done)), (by first | rfl | (simp;done) | (simp [*];done)), H', ⟨by have := HJ2.out;have := HJ29.out;have := HK3.out;have := HK4.out;omega⟩, ⟨Sst HO_5.out⟩, ⟨Rst HO_13.out⟩, ⟨blkst BK138.out⟩, ⟨blkst BK139.out⟩, ⟨bel HB.out⟩⟩
                ·rw [if_neg c86] at H
                 exact absurd H (by simp)
               ·rw [if_neg c85] at H
                have c85b0 : decide (x20_4 < (t160.length : Int)) = false := decide_eq_false c85
                clear c85
                obtain rfl := Option.some.inj H
                obtain ⟨Ao88, co88, eo88⟩ := Kd.R_slice HO_13.out
                subst eo88
                obtain ⟨Ao89, co89, eo89⟩ := Kd.S_slice HO_5.out
                subst eo89
                as_aux_lemma =>
                 go_wp2
                 go_ret
                 exact ⟨by first | rfl | (simp [errW_none, errW_some] <;> rfl) | (simp [*, errW_none, errW_some] <;> rfl), bel HB.out⟩
    ·rw [if_neg c26] at H
     have c26b0 : (t150 == 0) = false := beq_eq_false_iff_ne.mpr c26
     have c26b1 : (t150 != 0) = true := bne_iff_ne.mpr c26
     obtain rfl := Option.some.inj H
     have hnb90 := NB138_139.out
     have hnc90 := NB139_138.out
     have hcz91_0 : wc.cell? ⟨gb138, 0, none⟩ = some (.int .i64 a0_0) := (blk_cell BK138.out 0).trans rfl
     have hcz91_1 : wc.cell? ⟨gb138, 1, none⟩ = some (.slice A0_1 l0_1.length c0_1) := (blk_cell BK138.out 1).trans rfl
     have hfz91_0 := blk_frozen BK138.out 0
     have hfz91_1 := blk_frozen BK138.out 1
     have hcz92_0 : wc.cell? ⟨gb139, 0, none⟩ = some (.int .i64 a1_0) := (blk_cell BK139.out 0).trans rfl
     have hcz92_1 : wc.cell? ⟨gb139, 1, none⟩ = some (.slice A1_1 l1_1.length c1_1) := (blk_cell BK139.out 1).trans rfl
     have hfz92_0 := blk_frozen BK139.out 0
     have hfz92_1 := blk_frozen BK139.out 1
     as_aux_lemma =>
      go_wp2_with (first|((with_reducible refine gate_callee (f := 18) rfl ?_);refine goesL_ (some 35) rfl rfl Try.func18 (by kernel_rfl) rfl #[.agg #[.int .i64 a0_0, .slice A0_1 l0_1.length c0_1], .agg #[.int .i64 a1_0, .slice A1_1 l1_1.length c1_1]] rfl (by (try simp only [List.map_toArray, List.map_cons, List.map_nil]);first | done | rfl | (simp only [List.length_drop, List.length_take];rfl)) ?_;(with_reducible refine (galoislaw27_groups.calls kj2 a0_0 _ _ l0_1 a1_0 _ _ l1_1 t144 t147 t150 _ ?side1 ?side2 ?side3 ?side4 A25.out).mono ?_);(case side1 => exact Cst (Kd.C_below HR0_1.out HB.out));(case side2 => exact HC0_1.out);(case side3 => exact Cst (Kd.C_below HR1_1.out HB.out));(case side4 => exact HC1_1.out);rintro e w93 ⟨v145, v148, rfl, ho0, ho1, hb⟩;refine ⟨_, rfl, ?_⟩;have n0_ := Aside0.mk (Kd.S_lower ho0 (below_size (bel HB.out)));have n1_ := Aside0.mk (Kd.S_lower ho1 (below_size (bel HB.out)));have n2_ := Aside0.mk (blk_below (g := gb138) (o := .cells #[.int .i64 a0_0, .slice A0_1 l0_1.length c0_1] 24 (0, 0)) (blkst BK138.out) hb);have n3_ := Aside0.mk (blk_below (g := gb139) (o := .cells #[.int .i64 a1_0, .slice A1_1 l1_1.length c1_1] 24 (0, 0)) (blkst BK139.out) hb);have n4_ := Aside0.mk (below_step (bel HB.out) hb);clear BK138;clear BK139;clear HB;have HO146 := n0_;have HO149 := n1_;have BK138 := n2_;have BK139 := n3_;have HB := n4_;clear n0_ n1_ n2_ n3_ n4_;(try clear hb);(try clear hb2);(try clear hk);(try clear hi);(try clear ho0);(try clear ho1)))
      go_ret
      exact ⟨by first | rfl | (simp [errW_none, errW_some] <;> rfl) | (simp [*, errW_none, errW_some] <;> rfl), bel HB.out⟩
def galoislaw27_CosetLagrange.Pure : Prop := ∀ (a0_0 : Int) (l0_1 : List (List Int)) (a1_0 : Int) (l1_1 : List (List Int)), (Lit.int .i64 a0_0).wf = true → l0_1.length ≤ maxLen → (∀ x ∈ l0_1, (x.length ≤ maxLen ∧ ∀ y0 ∈ x, (Lit.int .i64 y0).wf = true)) → (Lit.int .i64 a1_0).wf = true → l1_1.length ≤ maxLen → (∀ x ∈ l1_1, (x.length ≤ maxLen ∧ ∀ y0 ∈ x, (Lit.int .i64 y0).wf = true)) → ∃ k, galoislaw27_CosetLagrange.f k a0_0 l0_1 a1_0 l1_1 = some true
theorem galoislaw27_CosetLagrange.walk (P : galoislaw27_CosetLagrange.Pure) (a0_0 : Int) (A0_1 : Option Addr) (c0_1 : Nat) (l0_1 : List (List Int)) (a1_0 : Int) (A1_1 : Option Addr) (c1_1 : Nat) (l1_1 : List (List Int)) (w : World) (w0_0 : (Lit.int .i64 a0_0).wf = true) (hr0_1 : Kd.C (Kd.slice 3 (Kd.int .i64)) w A0_1 l0_1.length l0_1) (hc0_1 : l0_1.length ≤ c0_1) (hm0_1 : l0_1.length ≤ maxLen) (hw0_1 : ∀ x ∈ l0_1, (x.length ≤ maxLen ∧ ∀ y0 ∈ x, (Lit.int .i64 y0).wf = true)) (w1_0 : (Lit.int .i64 a1_0).wf = true) (hr1_1 : Kd.C (Kd.slice 3 (Kd.int .i64)) w A1_1 l1_1.length l1_1) (hc1_1 : l1_1.length ≤ c1_1) (hm1_1 : l1_1.length ≤ maxLen) (hw1_1 : ∀ x ∈ l1_1, (x.length ≤ maxLen ∧ ∀ y0 ∈ x, (Lit.int .i64 y0).wf = true)) :
  Calls Try.prog 6 #[.agg #[.int .i64 a0_0, .slice A0_1 l0_1.length c0_1], .agg #[.int .i64 a1_0, .slice A1_1 l1_1.length c1_1]] w fun e w' => e = .returned (.bool true) ∧ Below w.heap.size w w' := by
 obtain ⟨k, h⟩ := P a0_0 l0_1 a1_0 l1_1 w0_0 hm0_1 hw0_1 w1_0 hm1_1 hw1_1
 refine (galoislaw27_CosetLagrange.calls k a0_0 _ _ l0_1 a1_0 _ _ l1_1 true w hr0_1 hc0_1 hr1_1 hc1_1 h).mono ?_
 rintro e w' ⟨rfl, hd⟩
 exact ⟨rfl, hd⟩
end Go.Proofs.Ytaaaljifclecnaa.PLa
