-- Printed.
import Derived.Test.YtaaaljifclecnaaZCosetDoublesMg0
import Derived.Test.YtaaaljifclecnaaZCosetDoublesMg4
import Derived.Test.YtaaaljifclecnaaZCosetDoublesPDux0
import Derived.Test.YtaaaljifclecnaaZCosetDoublesPDux1
namespace Go.Proofs.Ytaaaljifclecnaa.PDu
open Go.RowKit Go.Proofs.YtaaaljifclecnaaW.PrintWords Go.Proofs.YtaaaljifclecnaaW.PrintLast Go.Proofs.YtaaaljifclecnaaW.PrintMore
attribute [local go_sem] max2_int min2_int max_two min_two max_three min_three max_four min_four
set_option linter.unusedVariables false
set_option linter.unusedSimpArgs false
mutual
def galoislaw27_CosetDoubles.j0 : Nat → Bool → Int → List (List Int) → Int → List (List Int) → Int → List (List Int) → Option (Bool)
 | 0, _, _, _, _, _, _, _ => none
 | k + 1, x34, x139000, x139001, x140000, x140001, x141000, x141001 => if x34 = true then ((galoislaw27_awake.f).bind fun t145 => (some t145)) else ((coset_DoubleCosets.f k x139000 x139001 x140000 x140001 x141000 x141001).bind fun bt146 => ((some (([(⟨x139000, x139001⟩ : S24), (⟨x140000, x140001⟩ : S24), (⟨x141000, x141001⟩ : S24)] : List (S24)) : List (S24))).bind fun y153 => (galoislaw27_CosetDoubles.l0 k bt146.1 bt146.2.1 bt146.2.2 y153 (y153.length : Int) 0 x139000 x139001 x140000 x140001 x141000 x141001)))
def galoislaw27_CosetDoubles.l0 : Nat → List (List Int) → List Int → Int → List (S24) → Int → Int → Int → List (List Int) → Int → List (List Int) → Int → List (List Int) → Option (Bool)
 | 0, _, _, _, _, _, _, _, _, _, _, _, _ => none
 | k + 1, x7, x8, x9, x47, x48, x49, x139000, x139001, x140000, x140001, x141000, x141001 => if x49 < x48 then (if 0 ≤ x49 then (if x49 < (x47.length : Int) then ((galoisref23_Check.f k ((rd_T24 x47 x49).f0) ((rd_T24 x47 x49).f1)).bind fun t158 => (if t158 = 0 then (galoislaw27_CosetDoubles.l0 k x7 x8 x9 x47 x48 (wrap64 (x49 + 1)) x139000 x139001 x140000 x140001 x141000 x141001) else (if (x7.length : Int) = 0 then (if (x8.length : Int) = 0 then (some (x9 == t158)) else (some false)) else (some false)))) else (none)) else (none)) else (if x139000 = x140000 then (galoislaw27_CosetDoubles.j2 k x7 x8 x9 (x139000 != x141000) x139000 x139001 x140000 x140001 x141000 x141001) else (galoislaw27_CosetDoubles.j2 k x7 x8 x9 true x139000 x139001 x140000 x140001 x141000 x141001))
def galoislaw27_CosetDoubles.j2 : Nat → List (List Int) → List Int → Int → Bool → Int → List (List Int) → Int → List (List Int) → Int → List (List Int) → Option (Bool)
 | 0, _, _, _, _, _, _, _, _, _, _ => none
 | k + 1, x7, x8, x9, x82, x139000, x139001, x140000, x140001, x141000, x141001 => if x82 = true then (if (x7.length : Int) = 0 then (if (x8.length : Int) = 0 then (some (x9 == 2)) else (some false)) else (some false)) else ((galoislaw27_groups.f k x139000 x139001 x140000 x140001).bind fun bt159 => ((galoislaw27_groups.f k x139000 x139001 x141000 x141001).bind fun bt166 => (if bt159.2.2 = 0 then (galoislaw27_CosetDoubles.j3 k x7 x8 x9 bt159.1 bt159.2.1 bt166.2.1 (bt166.2.2 != 0)) else (galoislaw27_CosetDoubles.j3 k x7 x8 x9 bt159.1 bt159.2.1 bt166.2.1 true))))
def galoislaw27_CosetDoubles.j3 : Nat → List (List Int) → List Int → Int → List (List Int) → List (List Int) → List (List Int) → Bool → Option (Bool)
 | 0, _, _, _, _, _, _, _ => none
 | k + 1, x7, x8, x9, x13, x14, x17, x114 => if x114 = true then (if (x7.length : Int) = 0 then (if (x8.length : Int) = 0 then (some (x9 == 15)) else (some false)) else (some false)) else (if (x13.length : Int) > 120 then (galoislaw27_CosetDoubles.j4 k x7 x8 x9 x13 x14 x17 true) else (if (x14.length : Int) > 24 then (galoislaw27_CosetDoubles.j4 k x7 x8 x9 x13 x14 x17 true) else (galoislaw27_CosetDoubles.j4 k x7 x8 x9 x13 x14 x17 (decide ((x17.length : Int) > 24)))))
def galoislaw27_CosetDoubles.j4 : Nat → List (List Int) → List Int → Int → List (List Int) → List (List Int) → List (List Int) → Bool → Option (Bool)
 | 0, _, _, _, _, _, _, _ => none
 | k + 1, x7, x8, x9, x13, x14, x17, x139 => if x139 = true then (some (x9 == 0)) else ((galoisref27_DoubleCosets.f k x13 x14 x17).bind fun bt173 => (if x9 = 0 then ((galoisref22_SamePerms.f k x7 bt173.1).bind fun t179 => (if t179 = true then ((galoisref22_Same.f k x8 bt173.2).bind fun t180 => (some t180)) else (some false))) else (some false)))
end
def galoislaw27_CosetDoubles.f (k : Nat) (a0_0 : Int) (l0_1 : List (List Int)) (a1_0 : Int) (l1_1 : List (List Int)) (a2_0 : Int) (l2_1 : List (List Int)) : Option (Bool) := (galoislaw27_awake.f).bind fun t141 => (if t141 = true then ((galoislaw27_large.f k a0_0 l0_1).bind fun t142 => (if t142 = true then (galoislaw27_CosetDoubles.j0 k true a0_0 l0_1 a1_0 l1_1 a2_0 l2_1) else ((galoislaw27_large.f k a1_0 l1_1).bind fun t143 => (if t143 = true then (galoislaw27_CosetDoubles.j0 k true a0_0 l0_1 a1_0 l1_1 a2_0 l2_1) else ((galoislaw27_large.f k a2_0 l2_1).bind fun t144 => (galoislaw27_CosetDoubles.j0 k t144 a0_0 l0_1 a1_0 l1_1 a2_0 l2_1)))))) else (galoislaw27_CosetDoubles.j0 k true a0_0 l0_1 a1_0 l1_1 a2_0 l2_1))
set_option maxHeartbeats 80000000 in
set_option maxRecDepth 100000 in
theorem galoislaw27_CosetDoubles.calls (k : Nat) (a0_0 : Int) (P0_1_ : Nat → Prop) (A0_1 : Option Addr) (c0_1 : Nat) (l0_1 : List (List Int)) (a1_0 : Int) (P1_1_ : Nat → Prop) (A1_1 : Option Addr) (c1_1 : Nat) (l1_1 : List (List Int)) (a2_0 : Int) (P2_1_ : Nat → Prop) (A2_1 : Option Addr) (c2_1 : Nat) (l2_1 : List (List Int)) (r : Bool) (w : World) (hs0_1 : Kd.V (Kd.slice 3 (Kd.int .i64)) 43 w w.heap.size (fun k_ => P0_1_ k_) (.slice A0_1 l0_1.length c0_1) l0_1) (hs1_1 : Kd.V (Kd.slice 3 (Kd.int .i64)) 43 w w.heap.size (fun k_ => P1_1_ k_) (.slice A1_1 l1_1.length c1_1) l1_1) (hs2_1 : Kd.V (Kd.slice 3 (Kd.int .i64)) 43 w w.heap.size (fun k_ => P2_1_ k_) (.slice A2_1 l2_1.length c2_1) l2_1) (h : galoislaw27_CosetDoubles.f k a0_0 l0_1 a1_0 l1_1 a2_0 l2_1 = some r) :
  Calls Try.prog 5 #[.agg #[.int .i64 a0_0, .slice A0_1 l0_1.length c0_1], .agg #[.int .i64 a1_0, .slice A1_1 l1_1.length c1_1], .agg #[.int .i64 a2_0, .slice A2_1 l2_1.length c2_1]] w fun e w' => e = .returned (.bool r) ∧ Below w.heap.size w w' := by
 have hu24 := Try.underlying24
 have HO0_1 := Aside0.mk (show Kd.V (Kd.slice 3 (Kd.int .i64)) 43 w w.heap.size (fun k_ => ((P0_1_ k_ ∨ P1_1_ k_ ∨ P2_1_ k_) ∨ w.heap.size ≤ k_)) (.slice A0_1 l0_1.length c0_1) l0_1 from Kd.V_mono hs0_1 (fun k_ hk => .inl (.inl hk)))
 have HO1_1 := Aside0.mk (show Kd.V (Kd.slice 3 (Kd.int .i64)) 43 w w.heap.size (fun k_ => ((P0_1_ k_ ∨ P1_1_ k_ ∨ P2_1_ k_) ∨ w.heap.size ≤ k_)) (.slice A1_1 l1_1.length c1_1) l1_1 from Kd.V_mono hs1_1 (fun k_ hk => .inl (.inr (.inl hk))))
 have HO2_1 := Aside0.mk (show Kd.V (Kd.slice 3 (Kd.int .i64)) 43 w w.heap.size (fun k_ => ((P0_1_ k_ ∨ P1_1_ k_ ∨ P2_1_ k_) ∨ w.heap.size ≤ k_)) (.slice A2_1 l2_1.length c2_1) l2_1 from Kd.V_mono hs2_1 (fun k_ hk => .inl (.inr (.inr hk))))
 have HB := Aside0.mk (Below.refl w.heap.size w)
 have H : ((galoislaw27_awake.f).bind fun t141 => (if t141 = true then ((galoislaw27_large.f k a0_0 l0_1).bind fun t142 => (if t142 = true then (galoislaw27_CosetDoubles.j0 k true a0_0 l0_1 a1_0 l1_1 a2_0 l2_1) else ((galoislaw27_large.f k a1_0 l1_1).bind fun t143 => (if t143 = true then (galoislaw27_CosetDoubles.j0 k true a0_0 l0_1 a1_0 l1_1 a2_0 l2_1) else ((galoislaw27_large.f k a2_0 l2_1).bind fun t144 => (galoislaw27_CosetDoubles.j0 k t144 a0_0 l0_1 a1_0 l1_1 a2_0 l2_1)))))) else (galoislaw27_CosetDoubles.j0 k true a0_0 l0_1 a1_0 l1_1 a2_0 l2_1))) = some r := h
 clear h
 have HC4 := Aside0.mk H
 clear H
 go_enter Try.func5, Try.ntmps5
 go_upto_region 1 with (first|((with_reducible refine gate_dst (N := 3) rfl ?_);(try (refine gate_guard (by rfl) ?_;dsimp only));refine box_event ?hg (N := 3) ?hd (cs := #[.int .i64 a0_0, .slice A0_1 l0_1.length c0_1]) (t := 24) ?hr ?_;(case hd => rfl);(case hg => rfl);(case hr => first | (go_simp;done) | (go_simp;rfl));intro gb138 hg w5 hbox hb;have n0_ := Aside0.mk (Kd.V_below (Kd.V_elderB (Vst HO0_1.out) gb138 (Nat.le_of_eq hg.symm)) hb);have n1_ := Aside0.mk (Kd.V_below (Kd.V_elderB (Vst HO1_1.out) gb138 (Nat.le_of_eq hg.symm)) hb);have n2_ := Aside0.mk (Kd.V_below (Kd.V_elderB (Vst HO2_1.out) gb138 (Nat.le_of_eq hg.symm)) hb);have n3_ := Aside0.mk (below_step (bel HB.out) hb);have n4_ := Aside0.mk (hbox);have n5_ := Aside0.mk ((by rw [hg];exact (below_size (bel HB.out)) : w.heap.size ≤ gb138));have n6_ := Aside0.mk ((by rw [hg];exact (below_size (bel HB.out)) : w.heap.size ≤ gb138));clear HO0_1;clear HO1_1;clear HO2_1;clear HB;have HO0_1 := n0_;have HO1_1 := n1_;have HO2_1 := n2_;have HB := n3_;have BK138 := n4_;have GW138 := n5_;have GE138 := n6_;clear n0_ n1_ n2_ n3_ n4_ n5_ n6_;clear hb hbox hg) | ((with_reducible refine gate_dst (N := 4) rfl ?_);(try (refine gate_guard (by rfl) ?_;dsimp only));refine box_event ?hg (N := 4) ?hd (cs := #[.int .i64 a1_0, .slice A1_1 l1_1.length c1_1]) (t := 24) ?hr ?_;(case hd => rfl);(case hg => rfl);(case hr => first | (go_simp;done) | (go_simp;rfl));intro gb139 hg w6 hbox hb;have n0_ := Aside0.mk (Kd.V_below (Kd.V_elderB (Vst HO0_1.out) gb139 (Nat.le_of_eq hg.symm)) hb);have n1_ := Aside0.mk (Kd.V_below (Kd.V_elderB (Vst HO1_1.out) gb139 (Nat.le_of_eq hg.symm)) hb);have n2_ := Aside0.mk (Kd.V_below (Kd.V_elderB (Vst HO2_1.out) gb139 (Nat.le_of_eq hg.symm)) hb);have n3_ := Aside0.mk (blk_below (blkst BK138.out) hb);have n4_ := Aside0.mk (below_step (bel HB.out) hb);have n5_ := Aside0.mk (hbox);have n6_ := Aside0.mk ((by rw [hg];exact (below_size (bel HB.out)) : w.heap.size ≤ gb139));have n7_ := Aside0.mk ((by rw [hg];exact (below_size (bel HB.out)) : w.heap.size ≤ gb139));have n8_ := Aside0.mk ((by rw [hg];exact Nat.ne_of_lt (blk_lt (g := gb138) (o := .cells #[.int .i64 a0_0, .slice A0_1 l0_1.length c0_1] 24 (0, 0)) (blkst BK138.out)) : gb138 ≠ gb139));have n9_ := Aside0.mk ((by rw [hg];exact Nat.ne_of_gt (blk_lt (g := gb138) (o := .cells #[.int .i64 a0_0, .slice A0_1 l0_1.length c0_1] 24 (0, 0)) (blkst BK138.out)) : gb139 ≠ gb138));clear HO0_1;clear HO1_1;clear HO2_1;clear BK138;clear HB;have HO0_1 := n0_;have HO1_1 := n1_;have HO2_1 := n2_;have BK138 := n3_;have HB := n4_;have BK139 := n5_;have GW139 := n6_;have GE139 := n7_;have NB138_139 := n8_;have NB139_138 := n9_;clear n0_ n1_ n2_ n3_ n4_ n5_ n6_ n7_ n8_ n9_;clear hb hbox hg) | ((with_reducible refine gate_dst (N := 5) rfl ?_);(try (refine gate_guard (by rfl) ?_;dsimp only));refine box_event ?hg (N := 5) ?hd (cs := #[.int .i64 a2_0, .slice A2_1 l2_1.length c2_1]) (t := 24) ?hr ?_;(case hd => rfl);(case hg => rfl);(case hr => first | (go_simp;done) | (go_simp;rfl));intro gb140 hg w7 hbox hb;have n0_ := Aside0.mk (Kd.V_below (Kd.V_elderB (Vst HO0_1.out) gb140 (Nat.le_of_eq hg.symm)) hb);have n1_ := Aside0.mk (Kd.V_below (Kd.V_elderB (Vst HO1_1.out) gb140 (Nat.le_of_eq hg.symm)) hb);have n2_ := Aside0.mk (Kd.V_below (Kd.V_elderB (Vst HO2_1.out) gb140 (Nat.le_of_eq hg.symm)) hb);have n3_ := Aside0.mk (blk_below (blkst BK138.out) hb);have n4_ := Aside0.mk (blk_below (blkst BK139.out) hb);have n5_ := Aside0.mk (below_step (bel HB.out) hb);have n6_ := Aside0.mk (hbox);have n7_ := Aside0.mk ((by rw [hg];exact (below_size (bel HB.out)) : w.heap.size ≤ gb140));have n8_ := Aside0.mk ((by rw [hg];exact (below_size (bel HB.out)) : w.heap.size ≤ gb140));have n9_ := Aside0.mk ((by rw [hg];exact Nat.ne_of_lt (blk_lt (g := gb138) (o := .cells #[.int .i64 a0_0, .slice A0_1 l0_1.length c0_1] 24 (0, 0)) (blkst BK138.out)) : gb138 ≠ gb140));have n10_ := Aside0.mk ((by rw [hg];exact Nat.ne_of_gt (blk_lt (g := gb138) (o := .cells #[.int .i64 a0_0, .slice A0_1 l0_1.length c0_1] 24 (0, 0)) (blkst BK138.out)) : gb140 ≠ gb138));have n11_ := Aside0.mk ((by rw [hg];exact Nat.ne_of_lt (blk_lt (g := gb139) (o := .cells #[.int .i64 a1_0, .slice A1_1 l1_1.length c1_1] 24 (0, 0)) (blkst BK139.out)) : gb139 ≠ gb140));have n12_ := Aside0.mk ((by rw [hg];exact Nat.ne_of_gt (blk_lt (g := gb139) (o := .cells #[.int .i64 a1_0, .slice A1_1 l1_1.length c1_1] 24 (0, 0)) (blkst BK139.out)) : gb140 ≠ gb139));clear HO0_1;clear HO1_1;clear HO2_1;clear BK138;clear BK139;clear HB;have HO0_1 := n0_;have HO1_1 := n1_;have HO2_1 := n2_;have BK138 := n3_;have BK139 := n4_;have HB := n5_;have BK140 := n6_;have GW140 := n7_;have GE140 := n8_;have NB138_140 := n9_;have NB140_138 := n10_;have NB139_140 := n11_;have NB140_139 := n12_;clear n0_ n1_ n2_ n3_ n4_ n5_ n6_ n7_ n8_ n9_ n10_ n11_ n12_;clear hb hbox hg))
 (try simp only [Act.put, List.setIfInBounds_toArray, List.set_cons_zero, List.set_cons_succ])
 go_cut [34] (fun v34 wc => ∃ (kq : Nat) (x34_3 : Bool), v34 = .bool x34_3 ∧ Aside0 (galoislaw27_CosetDoubles.j0 kq x34_3 a0_0 l0_1 a1_0 l1_1 a2_0 l2_1 = some r) ∧ Aside0 (kq ≤ k) ∧ Aside0 (Kd.V (Kd.slice 3 (Kd.int .i64)) 43 wc w.heap.size (fun k_ => ((P0_1_ k_ ∨ P1_1_ k_ ∨ P2_1_ k_) ∨ w.heap.size ≤ k_) ∧ k_ ≠ gb138 ∧ k_ ≠ gb139 ∧ k_ ≠ gb140) (.slice A0_1 l0_1.length c0_1) l0_1) ∧ Aside0 (Kd.V (Kd.slice 3 (Kd.int .i64)) 43 wc w.heap.size (fun k_ => ((P0_1_ k_ ∨ P1_1_ k_ ∨ P2_1_ k_) ∨ w.heap.size ≤ k_) ∧ k_ ≠ gb138 ∧ k_ ≠ gb139 ∧ k_ ≠ gb140) (.slice A1_1 l1_1.length c1_1) l1_1) ∧ Aside0 (Kd.V (Kd.slice 3 (Kd.int .i64)) 43 wc w.heap.size (fun k_ => ((P0_1_ k_ ∨ P1_1_ k_ ∨ P2_1_ k_) ∨ w.heap.size ≤ k_) ∧ k_ ≠ gb138 ∧ k_ ≠ gb139 ∧ k_ ≠ gb140) (.slice A2_1 l2_1.length c2_1) l2_1) ∧ Aside0 (wc.heap[gb138]? = some (.cells #[.int .i64 a0_0, (.slice A0_1 l0_1.length c0_1)] 24 (0, 0))) ∧ Aside0 (wc.heap[gb139]? = some (.cells #[.int .i64 a1_0, (.slice A1_1 l1_1.length c1_1)] 24 (0, 0))) ∧ Aside0 (wc.heap[gb140]? = some (.cells #[.int .i64 a2_0, (.slice A2_1 l2_1.length c2_1)] 24 (0, 0))) ∧ Aside0 (Below w.heap.size w wc))
 case first =>
  have H := HC4.out
  clear HC4
  replace H := Option.bind_eq_some_iff.mp H
  obtain ⟨t141, A80, H⟩ := H
  replace H : (if t141 = true then ((galoislaw27_large.f k a0_0 l0_1).bind fun t142 => (if t142 = true then (galoislaw27_CosetDoubles.j0 k true a0_0 l0_1 a1_0 l1_1 a2_0 l2_1) else ((galoislaw27_large.f k a1_0 l1_1).bind fun t143 => (if t143 = true then (galoislaw27_CosetDoubles.j0 k true a0_0 l0_1 a1_0 l1_1 a2_0 l2_1) else ((galoislaw27_large.f k a2_0 l2_1).bind fun t144 => (galoislaw27_CosetDoubles.j0 k t144 a0_0 l0_1 a1_0 l1_1 a2_0 l2_1)))))) else (galoislaw27_CosetDoubles.j0 k true a0_0 l0_1 a1_0 l1_1 a2_0 l2_1)) = some r := H
  have A8 := Aside0.mk A80
  clear A80
  by_cases c9 : t141 = true
  ·subst c9
   have H1 : ((galoislaw27_large.f k a0_0 l0_1).bind fun t142 => (if t142 = true then (galoislaw27_CosetDoubles.j0 k true a0_0 l0_1 a1_0 l1_1 a2_0 l2_1) else ((galoislaw27_large.f k a1_0 l1_1).bind fun t143 => (if t143 = true then (galoislaw27_CosetDoubles.j0 k true a0_0 l0_1 a1_0 l1_1 a2_0 l2_1) else ((galoislaw27_large.f k a2_0 l2_1).bind fun t144 => (galoislaw27_CosetDoubles.j0 k t144 a0_0 l0_1 a1_0 l1_1 a2_0 l2_1)))))) = some r := by rw [if_pos rfl] at H;exact H
   clear H
   have H := H1
   clear H1
   replace H := Option.bind_eq_some_iff.mp H
   obtain ⟨t142, A100, H⟩ := H
   replace H : (if t142 = true then (galoislaw27_CosetDoubles.j0 k true a0_0 l0_1 a1_0 l1_1 a2_0 l2_1) else ((galoislaw27_large.f k a1_0 l1_1).bind fun t143 => (if t143 = true then (galoislaw27_CosetDoubles.j0 k true a0_0 l0_1 a1_0 l1_1 a2_0 l2_1) else ((galoislaw27_large.f k a2_0 l2_1).bind fun t144 => (galoislaw27_CosetDoubles.j0 k t144 a0_0 l0_1 a1_0 l1_1 a2_0 l2_1))))) = some r := H
   have A10 := Aside0.mk A100
   clear A100
   by_cases c11 : t142 = true
   ·subst c11
    have H1 : (galoislaw27_CosetDoubles.j0 k true a0_0 l0_1 a1_0 l1_1 a2_0 l2_1) = some r := by rw [if_pos rfl] at H;exact H
    clear H
    have H := H1
    clear H1
    have H' := Aside0.mk H
    clear H
    as_aux_lemma =>
     go_wp2_with (first|((with_reducible refine gate_callee (f := 10) rfl ?_);refine goesL_ (some 21) rfl rfl Try.func10 (by kernel_rfl) rfl #[] rfl (by (try simp only [List.map_toArray, List.map_cons, List.map_nil]);first | done | rfl | (simp only [List.length_drop, List.length_take];rfl)) ?_;(with_reducible refine (galoislaw27_awake.calls  true _ A8.out).mono ?_);rintro e w12 ⟨rfl, hb⟩;refine ⟨_, rfl, ?_⟩;have n0_ := Aside0.mk (Kd.V_below (Vst HO0_1.out) hb);have n1_ := Aside0.mk (Kd.V_below (Vst HO1_1.out) hb);have n2_ := Aside0.mk (Kd.V_below (Vst HO2_1.out) hb);have n3_ := Aside0.mk (blk_below (blkst BK138.out) hb);have n4_ := Aside0.mk (blk_below (blkst BK139.out) hb);have n5_ := Aside0.mk (blk_below (blkst BK140.out) hb);have n6_ := Aside0.mk (below_step (bel HB.out) hb);clear HO0_1;clear HO1_1;clear HO2_1;clear BK138;clear BK139;clear BK140;clear HB;have HO0_1 := n0_;have HO1_1 := n1_;have HO2_1 := n2_;have BK138 := n3_;have BK139 := n4_;have BK140 := n5_;have HB := n6_;clear n0_ n1_ n2_ n3_ n4_ n5_ n6_;(try clear hb);(try clear hb2);(try clear hk);(try clear hi);have hnb13 := NB138_139.out;have hnc13 := NB139_138.out;have hnb14 := NB138_140.out;have hnc14 := NB140_138.out;have hcz15_0 : w12.cell? ⟨gb138, 0, none⟩ = some (.int .i64 a0_0) := (blk_cell BK138.out 0).trans rfl;have hcz15_1 : w12.cell? ⟨gb138, 1, none⟩ = some (.slice A0_1 l0_1.length c0_1) := (blk_cell BK138.out 1).trans rfl;have hfz15_0 := blk_frozen BK138.out 0;have hfz15_1 := blk_frozen BK138.out 1) | (go_at_call 11;(with_reducible refine (galoislaw27_large.calls k a0_0 _ _ l0_1 true _ ?side1 ?side2 A10.out).mono ?_);(case side1 => repeat (first|exact (Kd.V_reads' HO0_1.out).2.2 | (with_reducible refine Kd.C_alloc ?_ _) | (with_reducible refine Kd.C_drewN ?_ _) | (with_reducible refine Kd.C_drew ?_)));(case side2 => exact (Kd.V_reads' HO0_1.out).2.1);rintro e w16 ⟨rfl, hb⟩;have n0_ := Aside0.mk (Kd.V_below (Vst HO0_1.out) hb);have n1_ := Aside0.mk (Kd.V_below (Vst HO1_1.out) hb);have n2_ := Aside0.mk (Kd.V_below (Vst HO2_1.out) hb);have n3_ := Aside0.mk (blk_below (blkst BK138.out) hb);have n4_ := Aside0.mk (blk_below (blkst BK139.out) hb);have n5_ := Aside0.mk (blk_below (blkst BK140.out) hb);have n6_ := Aside0.mk (below_step (bel HB.out) hb);clear HO0_1;clear HO1_1;clear HO2_1;clear BK138;clear BK139;clear BK140;clear HB;have HO0_1 := n0_;have HO1_1 := n1_;have HO2_1 := n2_;have BK138 := n3_;have BK139 := n4_;have BK140 := n5_;have HB := n6_;clear n0_ n1_ n2_ n3_ n4_ n5_ n6_;(try clear hb);(try clear hb2);(try clear hk);(try clear hi)))
     go_meet
     case rel => exact ⟨_, (true), (by first | rfl | (simp;done) | (simp [*];done)), H', ⟨by first | omega | exact Nat.le_refl _⟩, ⟨by (with_reducible repeat (first|apply Kd.V_alloc | apply Kd.V_drewN | apply Kd.V_drew));exact Kd.V_mono HO0_1.out (fun _ hk => ⟨hk.1.1.1, ⟨hk.1.1.2, ⟨hk.1.2, hk.2⟩⟩⟩)⟩, ⟨by (with_reducible repeat (first|apply Kd.V_alloc | apply Kd.V_drewN | apply Kd.V_drew));exact Kd.V_mono HO1_1.out (fun _ hk => ⟨hk.1.1.1, ⟨hk.1.1.2, ⟨hk.1.2, hk.2⟩⟩⟩)⟩, ⟨by (with_reducible repeat (first|apply Kd.V_alloc | apply Kd.V_drewN | apply Kd.V_drew));exact Kd.V_mono HO2_1.out (fun _ hk => ⟨hk.1.1.1, ⟨hk.1.1.2, ⟨hk.1.2, hk.2⟩⟩⟩)⟩, ⟨blkst BK138.out⟩, ⟨blkst BK139.out⟩, ⟨blkst BK140.out⟩, ⟨bel HB.out⟩⟩
   ·replace c11 := Bool.eq_false_iff.mpr c11
    subst c11
    have H1 : ((galoislaw27_large.f k a1_0 l1_1).bind fun t143 => (if t143 = true then (galoislaw27_CosetDoubles.j0 k true a0_0 l0_1 a1_0 l1_1 a2_0 l2_1) else ((galoislaw27_large.f k a2_0 l2_1).bind fun t144 => (galoislaw27_CosetDoubles.j0 k t144 a0_0 l0_1 a1_0 l1_1 a2_0 l2_1)))) = some r := by rw [if_neg (show ¬ (false = true) by decide)] at H;exact H
    clear H
    have H := H1
    clear H1
    replace H := Option.bind_eq_some_iff.mp H
    obtain ⟨t143, A170, H⟩ := H
    replace H : (if t143 = true then (galoislaw27_CosetDoubles.j0 k true a0_0 l0_1 a1_0 l1_1 a2_0 l2_1) else ((galoislaw27_large.f k a2_0 l2_1).bind fun t144 => (galoislaw27_CosetDoubles.j0 k t144 a0_0 l0_1 a1_0 l1_1 a2_0 l2_1))) = some r := H
    have A17 := Aside0.mk A170
    clear A170
    by_cases c18 : t143 = true
    ·subst c18
     have H1 : (galoislaw27_CosetDoubles.j0 k true a0_0 l0_1 a1_0 l1_1 a2_0 l2_1) = some r := by rw [if_pos rfl] at H;exact H
     clear H
     have H := H1
     clear H1
     have H' := Aside0.mk H
     clear H
     as_aux_lemma =>
      go_wp2_with (first|((with_reducible refine gate_callee (f := 10) rfl ?_);refine goesL_ (some 21) rfl rfl Try.func10 (by kernel_rfl) rfl #[] rfl (by (try simp only [List.map_toArray, List.map_cons, List.map_nil]);first | done | rfl | (simp only [List.length_drop, List.length_take];rfl)) ?_;(with_reducible refine (galoislaw27_awake.calls  true _ A8.out).mono ?_);rintro e w19 ⟨rfl, hb⟩;refine ⟨_, rfl, ?_⟩;have n0_ := Aside0.mk (Kd.V_below (Vst HO0_1.out) hb);have n1_ := Aside0.mk (Kd.V_below (Vst HO1_1.out) hb);have n2_ := Aside0.mk (Kd.V_below (Vst HO2_1.out) hb);have n3_ := Aside0.mk (blk_below (blkst BK138.out) hb);have n4_ := Aside0.mk (blk_below (blkst BK139.out) hb);have n5_ := Aside0.mk (blk_below (blkst BK140.out) hb);have n6_ := Aside0.mk (below_step (bel HB.out) hb);clear HO0_1;clear HO1_1;clear HO2_1;clear BK138;clear BK139;clear BK140;clear HB;have HO0_1 := n0_;have HO1_1 := n1_;have HO2_1 := n2_;have BK138 := n3_;have BK139 := n4_;have BK140 := n5_;have HB := n6_;clear n0_ n1_ n2_ n3_ n4_ n5_ n6_;(try clear hb);(try clear hb2);(try clear hk);(try clear hi);have hnb20 := NB138_139.out;have hnc20 := NB139_138.out;have hnb21 := NB138_140.out;have hnc21 := NB140_138.out;have hcz22_0 : w19.cell? ⟨gb138, 0, none⟩ = some (.int .i64 a0_0) := (blk_cell BK138.out 0).trans rfl;have hcz22_1 : w19.cell? ⟨gb138, 1, none⟩ = some (.slice A0_1 l0_1.length c0_1) := (blk_cell BK138.out 1).trans rfl;have hfz22_0 := blk_frozen BK138.out 0;have hfz22_1 := blk_frozen BK138.out 1) | (go_at_call 11;(with_reducible refine (galoislaw27_large.calls k a0_0 _ _ l0_1 false _ ?side1 ?side2 A10.out).mono ?_);(case side1 => repeat (first|exact (Kd.V_reads' HO0_1.out).2.2 | (with_reducible refine Kd.C_alloc ?_ _) | (with_reducible refine Kd.C_drewN ?_ _) | (with_reducible refine Kd.C_drew ?_)));(case side2 => exact (Kd.V_reads' HO0_1.out).2.1);rintro e w23 ⟨rfl, hb⟩;have n0_ := Aside0.mk (Kd.V_below (Vst HO0_1.out) hb);have n1_ := Aside0.mk (Kd.V_below (Vst HO1_1.out) hb);have n2_ := Aside0.mk (Kd.V_below (Vst HO2_1.out) hb);have n3_ := Aside0.mk (blk_below (blkst BK138.out) hb);have n4_ := Aside0.mk (blk_below (blkst BK139.out) hb);have n5_ := Aside0.mk (blk_below (blkst BK140.out) hb);have n6_ := Aside0.mk (below_step (bel HB.out) hb);clear HO0_1;clear HO1_1;clear HO2_1;clear BK138;clear BK139;clear BK140;clear HB;have HO0_1 := n0_;have HO1_1 := n1_;have HO2_1 := n2_;have BK138 := n3_;have BK139 := n4_;have BK140 := n5_;have HB := n6_;clear n0_ n1_ n2_ n3_ n4_ n5_ n6_;(try clear hb);(try clear hb2);(try clear hk);(try clear hi);have hnb24 := NB139_140.out;have hnc24 := NB140_139.out;have hcz25_0 : w23.cell? ⟨gb139, 0, none⟩ = some (.int .i64 a1_0) := (blk_cell BK139.out 0).trans rfl;have hcz25_1 : w23.cell? ⟨gb139, 1, none⟩ = some (.slice A1_1 l1_1.length c1_1) := (blk_cell BK139.out 1).trans rfl;have hfz25_0 := blk_frozen BK139.out 0;have hfz25_1 := blk_frozen BK139.out 1) | (go_at_call 11;(with_reducible refine (galoislaw27_large.calls k a1_0 _ _ l1_1 true _ ?side1 ?side2 A17.out).mono ?_);(case side1 => repeat (first|exact (Kd.V_reads' HO1_1.out).2.2 | (with_reducible refine Kd.C_alloc ?_ _) | (with_reducible refine Kd.C_drewN ?_ _) | (with_reducible refine Kd.C_drew ?_)));(case side2 => exact (Kd.V_reads' HO1_1.out).2.1);rintro e w26 ⟨rfl, hb⟩;have n0_ := Aside0.mk (Kd.V_below (Vst HO0_1.out) hb);have n1_ := Aside0.mk (Kd.V_below (Vst HO1_1.out) hb);have n2_ := Aside0.mk (Kd.V_below (Vst HO2_1.out) hb);have n3_ := Aside0.mk (blk_below (blkst BK138.out) hb);have n4_ := Aside0.mk (blk_below (blkst BK139.out) hb);have n5_ := Aside0.mk (blk_below (blkst BK140.out) hb);have n6_ := Aside0.mk (below_step (bel HB.out) hb);clear HO0_1;clear HO1_1;clear HO2_1;clear BK138;clear BK139;clear BK140;clear HB;have HO0_1 := n0_;have HO1_1 := n1_;have HO2_1 := n2_;have BK138 := n3_;have BK139 := n4_;have BK140 := n5_;have HB := n6_;clear n0_ n1_ n2_ n3_ n4_ n5_ n6_;(try clear hb);(try clear hb2);(try clear hk);(try clear hi)))
      go_meet
      case rel => exact ⟨_, (true), (by first | rfl | (simp;done) | (simp [*];done)), H', ⟨by first | omega | exact Nat.le_refl _⟩, ⟨by (with_reducible repeat (first|apply Kd.V_alloc | apply Kd.V_drewN | apply Kd.V_drew));exact Kd.V_mono HO0_1.out (fun _ hk => ⟨hk.1.1.1, ⟨hk.1.1.2, ⟨hk.1.2, hk.2⟩⟩⟩)⟩, ⟨by (with_reducible repeat (first|apply Kd.V_alloc | apply Kd.V_drewN | apply Kd.V_drew));exact Kd.V_mono HO1_1.out (fun _ hk => ⟨hk.1.1.1, ⟨hk.1.1.2, ⟨hk.1.2, hk.2⟩⟩⟩)⟩, ⟨by (with_reducible repeat (first|apply Kd.V_alloc | apply Kd.V_drewN | apply Kd.V_drew));exact Kd.V_mono HO2_1.out (fun _ hk => ⟨hk.1.1.1, ⟨hk.1.1.2, ⟨hk.1.2, hk.2⟩⟩⟩)⟩, ⟨blkst BK138.out⟩, ⟨blkst BK139.out⟩, ⟨blkst BK140.out⟩, ⟨bel HB.out⟩⟩
    ·replace c18 := Bool.eq_false_iff.mpr c18
     subst c18
     have H1 : ((galoislaw27_large.f k a2_0 l2_1).bind fun t144 => (galoislaw27_CosetDoubles.j0 k t144 a0_0 l0_1 a1_0 l1_1 a2_0 l2_1)) = some r := by rw [if_neg (show ¬ (false = true) by decide)] at H;exact H
     clear H
     have H := H1
     clear H1
     replace H := Option.bind_eq_some_iff.mp H
     obtain ⟨t144, A270, H⟩ := H
     replace H : (galoislaw27_CosetDoubles.j0 k t144 a0_0 l0_1 a1_0 l1_1 a2_0 l2_1) = some r := H
     have A27 := Aside0.mk A270
     clear A270
     have H' := Aside0.mk H
     clear H
     as_aux_lemma =>
      go_wp2_with (first|((with_reducible refine gate_callee (f := 10) rfl ?_);refine goesL_ (some 21) rfl rfl Try.func10 (by kernel_rfl) rfl #[] rfl (by (try simp only [List.map_toArray, List.map_cons, List.map_nil]);first | done | rfl | (simp only [List.length_drop, List.length_take];rfl)) ?_;(with_reducible refine (galoislaw27_awake.calls  true _ A8.out).mono ?_);rintro e w28 ⟨rfl, hb⟩;refine ⟨_, rfl, ?_⟩;have n0_ := Aside0.mk (Kd.V_below (Vst HO0_1.out) hb);have n1_ := Aside0.mk (Kd.V_below (Vst HO1_1.out) hb);have n2_ := Aside0.mk (Kd.V_below (Vst HO2_1.out) hb);have n3_ := Aside0.mk (blk_below (blkst BK138.out) hb);have n4_ := Aside0.mk (blk_below (blkst BK139.out) hb);have n5_ := Aside0.mk (blk_below (blkst BK140.out) hb);have n6_ := Aside0.mk (below_step (bel HB.out) hb);clear HO0_1;clear HO1_1;clear HO2_1;clear BK138;clear BK139;clear BK140;clear HB;have HO0_1 := n0_;have HO1_1 := n1_;have HO2_1 := n2_;have BK138 := n3_;have BK139 := n4_;have BK140 := n5_;have HB := n6_;clear n0_ n1_ n2_ n3_ n4_ n5_ n6_;(try clear hb);(try clear hb2);(try clear hk);(try clear hi);have hnb29 := NB138_139.out;have hnc29 := NB139_138.out;have hnb30 := NB138_140.out;have hnc30 := NB140_138.out;have hcz31_0 : w28.cell? ⟨gb138, 0, none⟩ = some (.int .i64 a0_0) := (blk_cell BK138.out 0).trans rfl;have hcz31_1 : w28.cell? ⟨gb138, 1, none⟩ = some (.slice A0_1 l0_1.length c0_1) := (blk_cell BK138.out 1).trans rfl;have hfz31_0 := blk_frozen BK138.out 0;have hfz31_1 := blk_frozen BK138.out 1) | (go_at_call 11;(with_reducible refine (galoislaw27_large.calls k a0_0 _ _ l0_1 false _ ?side1 ?side2 A10.out).mono ?_);(case side1 => repeat (first|exact (Kd.V_reads' HO0_1.out).2.2 | (with_reducible refine Kd.C_alloc ?_ _) | (with_reducible refine Kd.C_drewN ?_ _) | (with_reducible refine Kd.C_drew ?_)));(case side2 => exact (Kd.V_reads' HO0_1.out).2.1);rintro e w32 ⟨rfl, hb⟩;have n0_ := Aside0.mk (Kd.V_below (Vst HO0_1.out) hb);have n1_ := Aside0.mk (Kd.V_below (Vst HO1_1.out) hb);have n2_ := Aside0.mk (Kd.V_below (Vst HO2_1.out) hb);have n3_ := Aside0.mk (blk_below (blkst BK138.out) hb);have n4_ := Aside0.mk (blk_below (blkst BK139.out) hb);have n5_ := Aside0.mk (blk_below (blkst BK140.out) hb);have n6_ := Aside0.mk (below_step (bel HB.out) hb);clear HO0_1;clear HO1_1;clear HO2_1;clear BK138;clear BK139;clear BK140;clear HB;have HO0_1 := n0_;have HO1_1 := n1_;have HO2_1 := n2_;have BK138 := n3_;have BK139 := n4_;have BK140 := n5_;have HB := n6_;clear n0_ n1_ n2_ n3_ n4_ n5_ n6_;(try clear hb);(try clear hb2);(try clear hk);(try clear hi);have hnb33 := NB139_140.out;have hnc33 := NB140_139.out;have hcz34_0 : w32.cell? ⟨gb139, 0, none⟩ = some (.int .i64 a1_0) := (blk_cell BK139.out 0).trans rfl;have hcz34_1 : w32.cell? ⟨gb139, 1, none⟩ = some (.slice A1_1 l1_1.length c1_1) := (blk_cell BK139.out 1).trans rfl;have hfz34_0 := blk_frozen BK139.out 0;have hfz34_1 := blk_frozen BK139.out 1) | (go_at_call 11;(with_reducible refine (galoislaw27_large.calls k a1_0 _ _ l1_1 false _ ?side1 ?side2 A17.out).mono ?_);(case side1 => repeat (first|exact (Kd.V_reads' HO1_1.out).2.2 | (with_reducible refine Kd.C_alloc ?_ _) | (with_reducible refine Kd.C_drewN ?_ _) | (with_reducible refine Kd.C_drew ?_)));(case side2 => exact (Kd.V_reads' HO1_1.out).2.1);rintro e w35 ⟨rfl, hb⟩;have n0_ := Aside0.mk (Kd.V_below (Vst HO0_1.out) hb);have n1_ := Aside0.mk (Kd.V_below (Vst HO1_1.out) hb);have n2_ := Aside0.mk (Kd.V_below (Vst HO2_1.out) hb);have n3_ := Aside0.mk (blk_below (blkst BK138.out) hb);have n4_ := Aside0.mk (blk_below (blkst BK139.out) hb);have n5_ := Aside0.mk (blk_below (blkst BK140.out) hb);have n6_ := Aside0.mk (below_step (bel HB.out) hb);clear HO0_1;clear HO1_1;clear HO2_1;clear BK138;clear BK139;clear BK140;clear HB;have HO0_1 := n0_;have HO1_1 := n1_;have HO2_1 := n2_;have BK138 := n3_;have BK139 := n4_;have BK140 := n5_;have HB := n6_;clear n0_ n1_ n2_ n3_ n4_ n5_ n6_;(try clear hb);(try clear hb2);(try clear hk);(try clear hi);have hcz36_0 : w35.cell? ⟨gb140, 0, none⟩ = some (.int .i64 a2_0) := (blk_cell BK140.out 0).trans rfl;have hcz36_1 : w35.cell? ⟨gb140, 1, none⟩ = some (.slice A2_1 l2_1.length c2_1) := (blk_cell BK140.out 1).trans rfl;have hfz36_0 := blk_frozen BK140.out 0;have hfz36_1 := blk_frozen BK140.out 1) | (go_at_call 11;(with_reducible refine (galoislaw27_large.calls k a2_0 _ _ l2_1 t144 _ ?side1 ?side2 A27.out).mono ?_);(case side1 => repeat (first|exact (Kd.V_reads' HO2_1.out).2.2 | (with_reducible refine Kd.C_alloc ?_ _) | (with_reducible refine Kd.C_drewN ?_ _) | (with_reducible refine Kd.C_drew ?_)));(case side2 => exact (Kd.V_reads' HO2_1.out).2.1);rintro e w37 ⟨rfl, hb⟩;have n0_ := Aside0.mk (Kd.V_below (Vst HO0_1.out) hb);have n1_ := Aside0.mk (Kd.V_below (Vst HO1_1.out) hb);have n2_ := Aside0.mk (Kd.V_below (Vst HO2_1.out) hb);have n3_ := Aside0.mk (blk_below (blkst BK138.out) hb);have n4_ := Aside0.mk (blk_below (blkst BK139.out) hb);have n5_ := Aside0.mk (blk_below (blkst BK140.out) hb);have n6_ := Aside0.mk (below_step (bel HB.out) hb);clear HO0_1;clear HO1_1;clear HO2_1;clear BK138;clear BK139;clear BK140;clear HB;have HO0_1 := n0_;have HO1_1 := n1_;have HO2_1 := n2_;have BK138 := n3_;have BK139 := n4_;have BK140 := n5_;have HB := n6_;clear n0_ n1_ n2_ n3_ n4_ n5_ n6_;(try clear hb);(try clear hb2);(try clear hk);(try clear hi)))
      go_meet
      case rel => exact ⟨_, (t144), (by first | rfl | (simp;done) | (simp [*];done)), H', ⟨by first | omega | exact Nat.le_refl _⟩, ⟨by (with_reducible repeat (first|apply Kd.V_alloc | apply Kd.V_drewN | apply Kd.V_drew));exact Kd.V_mono HO0_1.out (fun _ hk => ⟨hk.1.1.1, ⟨hk.1.1.2, ⟨hk.1.2, hk.2⟩⟩⟩)⟩, ⟨by (with_reducible repeat (first|apply Kd.V_alloc | apply Kd.V_drewN | apply Kd.V_drew));exact Kd.V_mono HO1_1.out (fun _ hk => ⟨hk.1.1.1, ⟨hk.1.1.2, ⟨hk.1.2, hk.2⟩⟩⟩)⟩, ⟨by (with_reducible repeat (first|apply Kd.V_alloc | apply Kd.V_drewN | apply Kd.V_drew));exact Kd.V_mono HO2_1.out (fun _ hk => ⟨hk.1.1.1, ⟨hk.1.1.2, ⟨hk.1.2, hk.2⟩⟩⟩)⟩, ⟨blkst BK138.out⟩, ⟨blkst BK139.out⟩, ⟨blkst BK140.out⟩, ⟨bel HB.out⟩⟩
  ·replace c9 := Bool.eq_false_iff.mpr c9
   subst c9
   have H1 : (galoislaw27_CosetDoubles.j0 k true a0_0 l0_1 a1_0 l1_1 a2_0 l2_1) = some r := by rw [if_neg (show ¬ (false = true) by decide)] at H;exact H
   clear H
   have H := H1
   clear H1
   have H' := Aside0.mk H
   clear H
   as_aux_lemma =>
    go_wp2_with (first|((with_reducible refine gate_callee (f := 10) rfl ?_);refine goesL_ (some 21) rfl rfl Try.func10 (by kernel_rfl) rfl #[] rfl (by (try simp only [List.map_toArray, List.map_cons, List.map_nil]);first | done | rfl | (simp only [List.length_drop, List.length_take];rfl)) ?_;(with_reducible refine (galoislaw27_awake.calls  false _ A8.out).mono ?_);rintro e w38 ⟨rfl, hb⟩;refine ⟨_, rfl, ?_⟩;have n0_ := Aside0.mk (Kd.V_below (Vst HO0_1.out) hb);have n1_ := Aside0.mk (Kd.V_below (Vst HO1_1.out) hb);have n2_ := Aside0.mk (Kd.V_below (Vst HO2_1.out) hb);have n3_ := Aside0.mk (blk_below (blkst BK138.out) hb);have n4_ := Aside0.mk (blk_below (blkst BK139.out) hb);have n5_ := Aside0.mk (blk_below (blkst BK140.out) hb);have n6_ := Aside0.mk (below_step (bel HB.out) hb);clear HO0_1;clear HO1_1;clear HO2_1;clear BK138;clear BK139;clear BK140;clear HB;have HO0_1 := n0_;have HO1_1 := n1_;have HO2_1 := n2_;have BK138 := n3_;have BK139 := n4_;have BK140 := n5_;have HB := n6_;clear n0_ n1_ n2_ n3_ n4_ n5_ n6_;(try clear hb);(try clear hb2);(try clear hk);(try clear hi)))
    go_meet
    case rel => exact ⟨_, (true), (by first | rfl | (simp;done) | (simp [*];done)), H', ⟨by first | omega | exact Nat.le_refl _⟩, ⟨by (with_reducible repeat (first|apply Kd.V_alloc | apply Kd.V_drewN | apply Kd.V_drew));exact Kd.V_mono HO0_1.out (fun _ hk => ⟨hk.1.1.1, ⟨hk.1.1.2, ⟨hk.1.2, hk.2⟩⟩⟩)⟩, ⟨by (with_reducible repeat (first|apply Kd.V_alloc | apply Kd.V_drewN | apply Kd.V_drew));exact Kd.V_mono HO1_1.out (fun _ hk => ⟨hk.1.1.1, ⟨hk.1.1.2, ⟨hk.1.2, hk.2⟩⟩⟩)⟩, ⟨by (with_reducible repeat (first|apply Kd.V_alloc | apply Kd.V_drewN | apply Kd.V_drew));exact Kd.V_mono HO2_1.out (fun _ hk => ⟨hk.1.1.1, ⟨hk.1.1.2, ⟨hk.1.2, hk.2⟩⟩⟩)⟩, ⟨blkst BK138.out⟩, ⟨blkst BK139.out⟩, ⟨blkst BK140.out⟩, ⟨bel HB.out⟩⟩
 case rest =>
  clear HC4
  try clear c1
  try clear c2
  try clear p2
  try clear c3
  try clear c5
  try clear c9
  try clear c10
  try clear c11
  try clear c13
  try clear c14
  try clear c18
  try clear c20
  try clear c21
  try clear c24
  try clear c29
  try clear c30
  try clear c33
  try clear hcz15_0
  try clear hcz15_1
  try clear hcz22_0
  try clear hcz22_1
  try clear hcz25_0
  try clear hcz25_1
  try clear hcz31_0
  try clear hcz31_1
  try clear hcz34_0
  try clear hcz34_1
  try clear hcz36_0
  try clear hcz36_1
  try clear hfz15_0
  try clear hfz15_1
  try clear hfz22_0
  try clear hfz22_1
  try clear hfz25_0
  try clear hfz25_1
  try clear hfz31_0
  try clear hfz31_1
  try clear hfz34_0
  try clear hfz34_1
  try clear hfz36_0
  try clear hfz36_1
  obtain ⟨kq, x34_3, rfl, HA, HJ3, HO_139001, HO_140001, HO_141001, BK138, BK139, BK140, HB⟩ := hcut
  cases kq with
  | zero => exact absurd HA.out (by simp [galoislaw27_CosetDoubles.j0])
  | succ kj3 =>
   have H := HA.out
   clear HA
   simp only [galoislaw27_CosetDoubles.j0] at H
   by_cases c39 : x34_3 = true
   ·subst c39
    have H1 : ((galoislaw27_awake.f).bind fun t145 => (some t145)) = some r := by rw [if_pos rfl] at H;exact H
    clear H
    have H := H1
    clear H1
    replace H := Option.bind_eq_some_iff.mp H
    obtain ⟨t145, A400, H⟩ := H
    replace H : (some t145) = some r := H
    have A40 := Aside0.mk A400
    clear A400
    obtain rfl := Option.some.inj H
    as_aux_lemma =>
     go_wp2_with (first|((with_reducible refine gate_callee (f := 10) rfl ?_);refine goesL_ (some 35) rfl rfl Try.func10 (by kernel_rfl) rfl #[] rfl (by (try simp only [List.map_toArray, List.map_cons, List.map_nil]);first | done | rfl | (simp only [List.length_drop, List.length_take];rfl)) ?_;(with_reducible refine (galoislaw27_awake.calls  t145 _ A40.out).mono ?_);rintro e w41 ⟨rfl, hb⟩;refine ⟨_, rfl, ?_⟩;have n0_ := Aside0.mk (Kd.V_below (Vst HO_139001.out) hb);have n1_ := Aside0.mk (Kd.V_below (Vst HO_140001.out) hb);have n2_ := Aside0.mk (Kd.V_below (Vst HO_141001.out) hb);have n3_ := Aside0.mk (blk_below (blkst BK138.out) hb);have n4_ := Aside0.mk (blk_below (blkst BK139.out) hb);have n5_ := Aside0.mk (blk_below (blkst BK140.out) hb);have n6_ := Aside0.mk (below_step (bel HB.out) hb);clear HO_139001;clear HO_140001;clear HO_141001;clear BK138;clear BK139;clear BK140;clear HB;have HO_139001 := n0_;have HO_140001 := n1_;have HO_141001 := n2_;have BK138 := n3_;have BK139 := n4_;have BK140 := n5_;have HB := n6_;clear n0_ n1_ n2_ n3_ n4_ n5_ n6_;(try clear hb);(try clear hb2);(try clear hk);(try clear hi)))
     go_ret
     exact ⟨by first | rfl | (simp [errW_none, errW_some] <;> rfl) | (simp [*, errW_none, errW_some] <;> rfl), bel HB.out⟩
   ·replace c39 := Bool.eq_false_iff.mpr c39
    subst c39
    have H1 : ((coset_DoubleCosets.f kj3 a0_0 l0_1 a1_0 l1_1 a2_0 l2_1).bind fun bt146 => ((some (([(⟨a0_0, l0_1⟩ : S24), (⟨a1_0, l1_1⟩ : S24), (⟨a2_0, l2_1⟩ : S24)] : List (S24)) : List (S24))).bind fun y153 => (galoislaw27_CosetDoubles.l0 kj3 bt146.1 bt146.2.1 bt146.2.2 y153 (y153.length : Int) 0 a0_0 l0_1 a1_0 l1_1 a2_0 l2_1))) = some r := by rw [if_neg (show ¬ (false = true) by decide)] at H;exact H
    clear H
    have H := H1
    clear H1
    replace H := Option.bind_eq_some_iff.mp H
    obtain ⟨⟨t146, t149, t152⟩, A420, H⟩ := H
    replace H : ((some (([(⟨a0_0, l0_1⟩ : S24), (⟨a1_0, l1_1⟩ : S24), (⟨a2_0, l2_1⟩ : S24)] : List (S24)) : List (S24))).bind fun y153 => (galoislaw27_CosetDoubles.l0 kj3 t146 t149 t152 y153 (y153.length : Int) 0 a0_0 l0_1 a1_0 l1_1 a2_0 l2_1)) = some r := H
    have A42 := Aside0.mk A420
    clear A420
    obtain ⟨y153, hy153⟩ : ∃ y_ : List (S24), y_ = (([(⟨a0_0, l0_1⟩ : S24), (⟨a1_0, l1_1⟩ : S24), (⟨a2_0, l2_1⟩ : S24)] : List (S24))) := ⟨_, rfl⟩
    replace H : (galoislaw27_CosetDoubles.l0 kj3 t146 t149 t152 y153 (y153.length : Int) 0 a0_0 l0_1 a1_0 l1_1 a2_0 l2_1) = some r := by first | (rw [hy153];with_reducible exact H) | (have H2_ := (Option.bind_some _ _).symm.trans H;rw [hy153];with_reducible exact H2_) | (have H2_ := (Option.bind_some _ _).symm.trans H;with_reducible exact H2_) | with_reducible exact H | (rw [hy153];exact H) | exact H
    have Ny153 := Aside0.mk hy153
    clear hy153
    have H' := Aside0.mk H
    clear H
    have hnb43 := NB138_139.out
    have hnc43 := NB139_138.out
    have hnb44 := NB138_140.out
    have hnc44 := NB140_138.out
    have hcz45_0 : wc.cell? ⟨gb138, 0, none⟩ = some (.int .i64 a0_0) := (blk_cell BK138.out 0).trans rfl
    have hcz45_1 : wc.cell? ⟨gb138, 1, none⟩ = some (.slice A0_1 l0_1.length c0_1) := (blk_cell BK138.out 1).trans rfl
    have hfz45_0 := blk_frozen BK138.out 0
    have hfz45_1 := blk_frozen BK138.out 1
    have hnb46 := NB139_140.out
    have hnc46 := NB140_139.out
    have hcz47_0 : wc.cell? ⟨gb139, 0, none⟩ = some (.int .i64 a1_0) := (blk_cell BK139.out 0).trans rfl
    have hcz47_1 : wc.cell? ⟨gb139, 1, none⟩ = some (.slice A1_1 l1_1.length c1_1) := (blk_cell BK139.out 1).trans rfl
    have hfz47_0 := blk_frozen BK139.out 0
    have hfz47_1 := blk_frozen BK139.out 1
    have hcz48_0 : wc.cell? ⟨gb140, 0, none⟩ = some (.int .i64 a2_0) := (blk_cell BK140.out 0).trans rfl
    have hcz48_1 : wc.cell? ⟨gb140, 1, none⟩ = some (.slice A2_1 l2_1.length c2_1) := (blk_cell BK140.out 1).trans rfl
    have hfz48_0 := blk_frozen BK140.out 0
    have hfz48_1 := blk_frozen BK140.out 1
    as_aux_lemma =>
     go_wp2_with (first|((with_reducible refine gate_callee (f := 30) rfl ?_);refine goesL_ (some 40) rfl rfl Try.func30 (by kernel_rfl) rfl #[.agg #[.int .i64 a0_0, .slice A0_1 l0_1.length c0_1], .agg #[.int .i64 a1_0, .slice A1_1 l1_1.length c1_1], .agg #[.int .i64 a2_0, .slice A2_1 l2_1.length c2_1]] rfl (by (try simp only [List.map_toArray, List.map_cons, List.map_nil]);first | done | rfl | (simp only [List.length_drop, List.length_take];rfl)) ?_;(with_reducible refine (coset_DoubleCosets.calls kj3 a0_0 _ _ l0_1 a1_0 _ _ l1_1 a2_0 _ _ l2_1 t146 t149 t152 _ ?side1 ?side2 ?side3 ?side4 ?side5 ?side6 A42.out).mono ?_);(case side1 => repeat (first|exact (Kd.V_reads' HO_139001.out).2.2 | (with_reducible refine Kd.C_alloc ?_ _) | (with_reducible refine Kd.C_drewN ?_ _) | (with_reducible refine Kd.C_drew ?_)));(case side2 => exact (Kd.V_reads' HO_139001.out).2.1);(case side3 => repeat (first|exact (Kd.V_reads' HO_140001.out).2.2 | (with_reducible refine Kd.C_alloc ?_ _) | (with_reducible refine Kd.C_drewN ?_ _) | (with_reducible refine Kd.C_drew ?_)));(case side4 => exact (Kd.V_reads' HO_140001.out).2.1);(case side5 => repeat (first|exact (Kd.V_reads' HO_141001.out).2.2 | (with_reducible refine Kd.C_alloc ?_ _) | (with_reducible refine Kd.C_drewN ?_ _) | (with_reducible refine Kd.C_drew ?_)));(case side6 => exact (Kd.V_reads' HO_141001.out).2.1);rintro e w49 ⟨v147, v150, rfl, ho0, ho1, hb⟩;refine ⟨_, rfl, ?_⟩;have n0_ := Aside0.mk (Kd.V_mono (Kd.V_told (Kd.V_told (Kd.V_old (Vst HO_139001.out) hb) (by first | exact Kd.N_base ho0 | exact Kd.S_base ho0 | exact Kd.R_base ho0)) (Kd.R_base ho1)) (fun _ h_ => h_.1));have n1_ := Aside0.mk (Kd.V_mono (Kd.V_told (Kd.V_told (Kd.V_old (Vst HO_140001.out) hb) (by first | exact Kd.N_base ho0 | exact Kd.S_base ho0 | exact Kd.R_base ho0)) (Kd.R_base ho1)) (fun _ h_ => h_.1));have n2_ := Aside0.mk (Kd.V_mono (Kd.V_told (Kd.V_told (Kd.V_old (Vst HO_141001.out) hb) (by first | exact Kd.N_base ho0 | exact Kd.S_base ho0 | exact Kd.R_base ho0)) (Kd.R_base ho1)) (fun _ h_ => h_.1));have n3_ := Aside0.mk (Kd.N_lower (Kd.N_mono (ok' := fun k_ => ((P0_1_ k_ ∨ P1_1_ k_ ∨ P2_1_ k_) ∨ w.heap.size ≤ k_) ∧ some k_ ≠ (v150 : Value).ownBlock ∧ k_ ≠ gb138 ∧ k_ ≠ gb139 ∧ k_ ≠ gb140) (Kd.S_N (Kd.S_bound ho0)) (fun k_ hk_ => ⟨(.inr (Nat.le_trans (below_size (bel HB.out)) hk_.2.1)), hk_.1, (Kd.freshB (g := gb138) (o := .cells #[.int .i64 a0_0, .slice A0_1 l0_1.length c0_1] 24 (0, 0)) (blkst BK138.out) k_ hk_.2.1), (Kd.freshB (g := gb139) (o := .cells #[.int .i64 a1_0, .slice A1_1 l1_1.length c1_1] 24 (0, 0)) (blkst BK139.out) k_ hk_.2.1), (Kd.freshB (g := gb140) (o := .cells #[.int .i64 a2_0, .slice A2_1 l2_1.length c2_1] 24 (0, 0)) (blkst BK140.out) k_ hk_.2.1)⟩)) (below_size (bel HB.out)));have n4_ := Aside0.mk (Kd.R_lower (Kd.R_newM (M := fun k_ => (w.heap.size ≤ k_)) ho1 (below_size (bel HB.out)) (fun k_ h_ => h_)) (below_size (bel HB.out)));have n5_ := Aside0.mk (blk_below (blkst BK138.out) hb);have n6_ := Aside0.mk (blk_below (blkst BK139.out) hb);have n7_ := Aside0.mk (blk_below (blkst BK140.out) hb);have n8_ := Aside0.mk (below_step (bel HB.out) hb);clear HO_139001;clear HO_140001;clear HO_141001;clear BK138;clear BK139;clear BK140;clear HB;have HO_139001 := n0_;have HO_140001 := n1_;have HO_141001 := n2_;have HO148 := n3_;have HO151 := n4_;have BK138 := n5_;have BK139 := n6_;have BK140 := n7_;have HB := n8_;clear n0_ n1_ n2_ n3_ n4_ n5_ n6_ n7_ n8_;(try clear hb);(try clear hb2);(try clear hk);(try clear hi);(try clear ho0);(try clear ho1);have hcz50_0 : w49.cell? ⟨gb138, 0, none⟩ = some (.int .i64 a0_0) := (blk_cell BK138.out 0).trans rfl;have hcz50_1 : w49.cell? ⟨gb138, 1, none⟩ = some (.slice A0_1 l0_1.length c0_1) := (blk_cell BK138.out 1).trans rfl;have hfz50_0 := blk_frozen BK138.out 0;have hfz50_1 := blk_frozen BK138.out 1;have hcz51_0 : w49.cell? ⟨gb139, 0, none⟩ = some (.int .i64 a1_0) := (blk_cell BK139.out 0).trans rfl;have hcz51_1 : w49.cell? ⟨gb139, 1, none⟩ = some (.slice A1_1 l1_1.length c1_1) := (blk_cell BK139.out 1).trans rfl;have hfz51_0 := blk_frozen BK139.out 0;have hfz51_1 := blk_frozen BK139.out 1;have hcz52_0 : w49.cell? ⟨gb140, 0, none⟩ = some (.int .i64 a2_0) := (blk_cell BK140.out 0).trans rfl;have hcz52_1 : w49.cell? ⟨gb140, 1, none⟩ = some (.slice A2_1 l2_1.length c2_1) := (blk_cell BK140.out 1).trans rfl;have hfz52_0 := blk_frozen BK140.out 0;have hfz52_1 := blk_frozen BK140.out 1) | ((with_reducible refine gate_dst (N := 47) rfl ?_);(try (refine gate_guard (by rfl) ?_;dsimp only));refine Kd.N_lit k24 _ 24 ?hg (N' := 47) ?hd (xs := ([(⟨a0_0, l0_1⟩ : S24), (⟨a1_0, l1_1⟩ : S24), (⟨a2_0, l2_1⟩ : S24)] : List (S24))) (inner := [.int .i64 a0_0, .slice A0_1 l0_1.length c0_1, .int .i64 a1_0, .slice A1_1 l1_1.length c1_1, .int .i64 a2_0, .slice A2_1 l2_1.length c2_1]) (ok := (fun k_ => ((P0_1_ k_ ∨ P1_1_ k_ ∨ P2_1_ k_) ∨ w.heap.size ≤ k_) ∧ some k_ ≠ (v147 : Value).ownBlock ∧ some k_ ≠ (v150 : Value).ownBlock ∧ k_ ≠ gb138 ∧ k_ ≠ gb139 ∧ k_ ≠ gb140)) (okp := (fun k_ => ((P0_1_ k_ ∨ P1_1_ k_ ∨ P2_1_ k_) ∨ w.heap.size ≤ k_) ∧ some k_ ≠ (v147 : Value).ownBlock ∧ some k_ ≠ (v150 : Value).ownBlock ∧ k_ ≠ gb138 ∧ k_ ≠ gb139 ∧ k_ ≠ gb140)) ?hr ?hp (fun _ hk => hk) ((show ∀ k_, w49.heap.size ≤ k_ → (fun k_ => ((P0_1_ k_ ∨ P1_1_ k_ ∨ P2_1_ k_) ∨ w.heap.size ≤ k_) ∧ some k_ ≠ (v147 : Value).ownBlock ∧ some k_ ≠ (v150 : Value).ownBlock ∧ k_ ≠ gb138 ∧ k_ ≠ gb139 ∧ k_ ≠ gb140) k_ from fun k_ hk => ⟨(.inr (Nat.le_trans (below_size (bel HB.out)) hk)), Kd.fresh' (Kd.N_lt (Nst HO148.out)) k_ hk, Kd.fresh' (Kd.R_lt (Rst HO151.out)) k_ hk, Kd.freshB (g := gb138) (o := .cells #[.int .i64 a0_0, .slice A0_1 l0_1.length c0_1] 24 (0, 0)) (blkst BK138.out) k_ hk, Kd.freshB (g := gb139) (o := .cells #[.int .i64 a1_0, .slice A1_1 l1_1.length c1_1] 24 (0, 0)) (blkst BK139.out) k_ hk, Kd.freshB (g := gb140) (o := .cells #[.int .i64 a2_0, .slice A2_1 l2_1.length c2_1] 24 (0, 0)) (blkst BK140.out) k_ hk⟩) _ (Nat.le_refl _)) (Below.refl _ _) (Nat.le_refl _) (by simp) ?_;(case hd => rfl);(case hg => rfl);(case hr => exact Go.Proofs.Ytaaaljifclecnaa.Bs.lit3_run rfl rfl rfl rfl);(case hp => exact (Reps.c2 (show Kd.FK k24 _ _ (⟨a0_0, l0_1⟩ : S24) [.int .i64 a0_0, .slice A0_1 l0_1.length c0_1] from (k24_mkF _ _ (⟨a0_0, l0_1⟩ : S24) (Kd.V_reads' (Kd.V_mono (ok' := (fun k_ => ((P0_1_ k_ ∨ P1_1_ k_ ∨ P2_1_ k_) ∨ w.heap.size ≤ k_) ∧ some k_ ≠ (v147 : Value).ownBlock ∧ some k_ ≠ (v150 : Value).ownBlock ∧ k_ ≠ gb138 ∧ k_ ≠ gb139 ∧ k_ ≠ gb140)) (HO_139001.out) (fun k_ hk => ⟨hk.1.1.1, ⟨hk.1.2, ⟨hk.2, ⟨hk.1.1.2.1, ⟨hk.1.1.2.2.1, hk.1.1.2.2.2⟩⟩⟩⟩⟩))).2.1 (Kd.V_F (Kd.V_mono (ok' := (fun k_ => ((P0_1_ k_ ∨ P1_1_ k_ ∨ P2_1_ k_) ∨ w.heap.size ≤ k_) ∧ some k_ ≠ (v147 : Value).ownBlock ∧ some k_ ≠ (v150 : Value).ownBlock ∧ k_ ≠ gb138 ∧ k_ ≠ gb139 ∧ k_ ≠ gb140)) (HO_139001.out) (fun k_ hk => ⟨hk.1.1.1, ⟨hk.1.2, ⟨hk.2, ⟨hk.1.1.2.1, ⟨hk.1.1.2.2.1, hk.1.1.2.2.2⟩⟩⟩⟩⟩))))) (Reps.c2 (show Kd.FK k24 _ _ (⟨a1_0, l1_1⟩ : S24) [.int .i64 a1_0, .slice A1_1 l1_1.length c1_1] from (k24_mkF _ _ (⟨a1_0, l1_1⟩ : S24) (Kd.V_reads' (Kd.V_mono (ok' := (fun k_ => ((P0_1_ k_ ∨ P1_1_ k_ ∨ P2_1_ k_) ∨ w.heap.size ≤ k_) ∧ some k_ ≠ (v147 : Value).ownBlock ∧ some k_ ≠ (v150 : Value).ownBlock ∧ k_ ≠ gb138 ∧ k_ ≠ gb139 ∧ k_ ≠ gb140)) (HO_140001.out) (fun k_ hk => ⟨hk.1.1.1, ⟨hk.1.2, ⟨hk.2, ⟨hk.1.1.2.1, ⟨hk.1.1.2.2.1, hk.1.1.2.2.2⟩⟩⟩⟩⟩))).2.1 (Kd.V_F (Kd.V_mono (ok' := (fun k_ => ((P0_1_ k_ ∨ P1_1_ k_ ∨ P2_1_ k_) ∨ w.heap.size ≤ k_) ∧ some k_ ≠ (v147 : Value).ownBlock ∧ some k_ ≠ (v150 : Value).ownBlock ∧ k_ ≠ gb138 ∧ k_ ≠ gb139 ∧ k_ ≠ gb140)) (HO_140001.out) (fun k_ hk => ⟨hk.1.1.1, ⟨hk.1.2, ⟨hk.2, ⟨hk.1.1.2.1, ⟨hk.1.1.2.2.1, hk.1.1.2.2.2⟩⟩⟩⟩⟩))))) (Reps.c2 (show Kd.FK k24 _ _ (⟨a2_0, l2_1⟩ : S24) [.int .i64 a2_0, .slice A2_1 l2_1.length c2_1] from (k24_mkF _ _ (⟨a2_0, l2_1⟩ : S24) (Kd.V_reads' (Kd.V_mono (ok' := (fun k_ => ((P0_1_ k_ ∨ P1_1_ k_ ∨ P2_1_ k_) ∨ w.heap.size ≤ k_) ∧ some k_ ≠ (v147 : Value).ownBlock ∧ some k_ ≠ (v150 : Value).ownBlock ∧ k_ ≠ gb138 ∧ k_ ≠ gb139 ∧ k_ ≠ gb140)) (HO_141001.out) (fun k_ hk => ⟨hk.1.1.1, ⟨hk.1.2, ⟨hk.2, ⟨hk.1.1.2.1, ⟨hk.1.1.2.2.1, hk.1.1.2.2.2⟩⟩⟩⟩⟩))).2.1 (Kd.V_F (Kd.V_mono (ok' := (fun k_ => ((P0_1_ k_ ∨ P1_1_ k_ ∨ P2_1_ k_) ∨ w.heap.size ≤ k_) ∧ some k_ ≠ (v147 : Value).ownBlock ∧ some k_ ≠ (v150 : Value).ownBlock ∧ k_ ≠ gb138 ∧ k_ ≠ gb139 ∧ k_ ≠ gb140)) (HO_141001.out) (fun k_ hk => ⟨hk.1.1.1, ⟨hk.1.2, ⟨hk.2, ⟨hk.1.1.2.1, ⟨hk.1.1.2.2.1, hk.1.1.2.2.2⟩⟩⟩⟩⟩))))) (Reps.none _ _)))));intro v154 w53 ho54 hb hg_ hnew_;clear hg_ hnew_;(first|rw [← Ny153.out] at ho54 | (simp only [Int.reduceToNat] at ho54;rw [← Ny153.out] at ho54));have n0_ := Aside0.mk (Kd.V_elder' (Vst HO_139001.out) (by first | exact Kd.N_base ho54 | exact Kd.S_base ho54 | exact Kd.R_base ho54) hb);have n1_ := Aside0.mk (Kd.V_elder' (Vst HO_140001.out) (by first | exact Kd.N_base ho54 | exact Kd.S_base ho54 | exact Kd.R_base ho54) hb);have n2_ := Aside0.mk (Kd.V_elder' (Vst HO_141001.out) (by first | exact Kd.N_base ho54 | exact Kd.S_base ho54 | exact Kd.R_base ho54) hb);have n3_ := Aside0.mk (Kd.N_elder' (Nst HO148.out) (by first | exact Kd.N_base ho54 | exact Kd.S_base ho54 | exact Kd.R_base ho54) hb);have n4_ := Aside0.mk (Kd.R_below (Rst HO151.out) hb);have n5_ := Aside0.mk (Kd.N_lower ho54 (below_size (bel HB.out)));have n6_ := Aside0.mk (blk_below (blkst BK138.out) hb);have n7_ := Aside0.mk (blk_below (blkst BK139.out) hb);have n8_ := Aside0.mk (blk_below (blkst BK140.out) hb);have n9_ := Aside0.mk (below_step (bel HB.out) hb);clear HO_139001;clear HO_140001;clear HO_141001;clear HO148;clear HO151;clear BK138;clear BK139;clear BK140;clear HB;have HO_139001 := n0_;have HO_140001 := n1_;have HO_141001 := n2_;have HO148 := n3_;have HO151 := n4_;have HO155 := n5_;have BK138 := n6_;have BK139 := n7_;have BK140 := n8_;have HB := n9_;clear n0_ n1_ n2_ n3_ n4_ n5_ n6_ n7_ n8_ n9_;clear hb ho54;obtain ⟨Ao55, co55, eo55⟩ := Kd.N_slice HO155.out;subst eo55))
     go_loopg [49] kj3 (fun kq v49 w' => ∃ (x49_2 : Int), v49 = .int .i64 x49_2 ∧ Aside0 (galoislaw27_CosetDoubles.l0 kq t146 t149 t152 y153 (y153.length : Int) x49_2 a0_0 l0_1 a1_0 l1_1 a2_0 l2_1 = some r) ∧ Aside0 (kq ≤ kj3) ∧ Aside0 (Kd.N (Kd.slice 3 (Kd.int .i64)) 43 w' w.heap.size (fun k_ => ((P0_1_ k_ ∨ P1_1_ k_ ∨ P2_1_ k_) ∨ w.heap.size ≤ k_) ∧ some k_ ≠ (v150 : Value).ownBlock ∧ some k_ ≠ ((.slice Ao55 y153.length co55) : Value).ownBlock ∧ k_ ≠ gb138 ∧ k_ ≠ gb139 ∧ k_ ≠ gb140) v147 t146) ∧ Aside0 (Kd.R (Kd.int .i64) 3 w' w.heap.size (fun k_ => (w.heap.size ≤ k_)) v150 t149) ∧ Aside0 (Kd.N k24 24 w' w.heap.size (fun k_ => ((P0_1_ k_ ∨ P1_1_ k_ ∨ P2_1_ k_) ∨ w.heap.size ≤ k_) ∧ some k_ ≠ (v147 : Value).ownBlock ∧ some k_ ≠ (v150 : Value).ownBlock ∧ k_ ≠ gb138 ∧ k_ ≠ gb139 ∧ k_ ≠ gb140) (.slice Ao55 y153.length co55) y153) ∧ Aside0 (Kd.V (Kd.slice 3 (Kd.int .i64)) 43 w' w.heap.size (fun k_ => ((P0_1_ k_ ∨ P1_1_ k_ ∨ P2_1_ k_) ∨ w.heap.size ≤ k_) ∧ some k_ ≠ (v147 : Value).ownBlock ∧ some k_ ≠ (v150 : Value).ownBlock ∧ some k_ ≠ ((.slice Ao55 y153.length co55) : Value).ownBlock ∧ k_ ≠ gb138 ∧ k_ ≠ gb139 ∧ k_ ≠ gb140) (.slice A0_1 l0_1.length c0_1) l0_1) ∧ Aside0 (Kd.V (Kd.slice 3 (Kd.int .i64)) 43 w' w.heap.size (fun k_ => ((P0_1_ k_ ∨ P1_1_ k_ ∨ P2_1_ k_) ∨ w.heap.size ≤ k_) ∧ some k_ ≠ (v147 : Value).ownBlock ∧ some k_ ≠ (v150 : Value).ownBlock ∧ some k_ ≠ ((.slice Ao55 y153.length co55) : Value).ownBlock ∧ k_ ≠ gb138 ∧ k_ ≠ gb139 ∧ k_ ≠ gb140) (.slice A1_1 l1_1.length c1_1) l1_1) ∧ Aside0 (Kd.V (Kd.slice 3 (Kd.int .i64)) 43 w' w.heap.size (fun k_ => ((P0_1_ k_ ∨ P1_1_ k_ ∨ P2_1_ k_) ∨ w.heap.size ≤ k_) ∧ some k_ ≠ (v147 : Value).ownBlock ∧ some k_ ≠ (v150 : Value).ownBlock ∧ some k_ ≠ ((.slice Ao55 y153.length co55) : Value).ownBlock ∧ k_ ≠ gb138 ∧ k_ ≠ gb139 ∧ k_ ≠ gb140) (.slice A2_1 l2_1.length c2_1) l2_1) ∧ Aside0 (w'.heap[gb138]? = some (.cells #[.int .i64 a0_0, (.slice A0_1 l0_1.length c0_1)] 24 (0, 0))) ∧ Aside0 (w'.heap[gb139]? = some (.cells #[.int .i64 a1_0, (.slice A1_1 l1_1.length c1_1)] 24 (0, 0))) ∧ Aside0 (w'.heap[gb140]? = some (.cells #[.int .i64 a2_0, (.slice A2_1 l2_1.length c2_1)] 24 (0, 0))) ∧ Aside0 (Below w.heap.size w w'))
     case atStart => exact ⟨(0), (by first | rfl | (simp;done) | (simp [*];done)), H', ⟨Nat.le_refl _⟩, ⟨by (with_reducible repeat (first|apply Kd.N_alloc | apply Kd.N_drewN | apply Kd.N_drew));exact Kd.N_mono HO148.out (fun _ hk => ⟨hk.1.1, ⟨hk.1.2.1, ⟨hk.2, ⟨hk.1.2.2.1, ⟨hk.1.2.2.2.1, hk.1.2.2.2.2⟩⟩⟩⟩⟩)⟩, ⟨by (with_reducible repeat (first|apply Kd.R_alloc | apply Kd.R_drewN | apply Kd.R_drew));exact Kd.R_mono HO151.out (fun _ hk => hk.1)⟩, ⟨Nst HO155.out⟩, ⟨by (with_reducible repeat (first|apply Kd.V_alloc | apply Kd.V_drewN | apply Kd.V_drew));exact Kd.V_mono HO_139001.out (fun _ hk => ⟨hk.1.1.1.1, ⟨hk.1.1.2, ⟨hk.1.2, ⟨hk.2, ⟨hk.1.1.1.2.1, ⟨hk.1.1.1.2.2.1, hk.1.1.1.2.2.2⟩⟩⟩⟩⟩⟩)⟩, ⟨by (with_reducible repeat (first|apply Kd.V_alloc | apply Kd.V_drewN | apply Kd.V_drew));exact Kd.V_mono HO_140001.out (fun _ hk => ⟨hk.1.1.1.1, ⟨hk.1.1.2, ⟨hk.1.2, ⟨hk.2, ⟨hk.1.1.1.2.1, ⟨hk.1.1.1.2.2.1, hk.1.1.1.2.2.2⟩⟩⟩⟩⟩⟩)⟩, ⟨by (with_reducible repeat (first|apply Kd.V_alloc | apply Kd.V_drewN | apply Kd.V_drew));exact Kd.V_mono HO_141001.out (fun _ hk => ⟨hk.1.1.1.1, ⟨hk.1.1.2, ⟨hk.1.2, ⟨hk.2, ⟨hk.1.1.1.2.1, ⟨hk.1.1.1.2.2.1, hk.1.1.1.2.2.2⟩⟩⟩⟩⟩⟩)⟩, ⟨blkst BK138.out⟩, ⟨blkst BK139.out⟩, ⟨blkst BK140.out⟩, ⟨bel HB.out⟩⟩
     case round =>
      clear H'
      try clear c1
      try clear c2
      try clear p2
      try clear c3
      try clear c4
      try clear c5
      try clear c9
      try clear c10
      try clear c11
      try clear c13
      try clear c14
      try clear c18
      try clear c20
      try clear c21
      try clear c24
      try clear c29
      try clear c30
      try clear c33
      try clear c39
      try clear c43
      try clear c44
      try clear c46
      try clear hcz15_0
      try clear hcz15_1
      try clear hcz22_0
      try clear hcz22_1
      try clear hcz25_0
      try clear hcz25_1
      try clear hcz31_0
      try clear hcz31_1
      try clear hcz34_0
      try clear hcz34_1
      try clear hcz36_0
      try clear hcz36_1
      try clear hcz45_0
      try clear hcz45_1
      try clear hcz47_0
      try clear hcz47_1
      try clear hcz48_0
      try clear hcz48_1
      try clear hcz50_0
      try clear hcz50_1
      try clear hcz51_0
      try clear hcz51_1
      try clear hcz52_0
      try clear hcz52_1
      try clear hfz15_0
      try clear hfz15_1
      try clear hfz22_0
      try clear hfz22_1
      try clear hfz25_0
      try clear hfz25_1
      try clear hfz31_0
      try clear hfz31_1
      try clear hfz34_0
      try clear hfz34_1
      try clear hfz36_0
      try clear hfz36_1
      try clear hfz45_0
      try clear hfz45_1
      try clear hfz47_0
      try clear hfz47_1
      try clear hfz48_0
      try clear hfz48_1
      try clear hfz50_0
      try clear hfz50_1
      try clear hfz51_0
      try clear hfz51_1
      try clear hfz52_0
      try clear hfz52_1
      try clear p2
      obtain ⟨x49_2, rfl, HA, HK2, HO_7, HO_8, HO_47, HO_139001, HO_140001, HO_141001, BK138, BK139, BK140, HB⟩ := hrel
      cases gk with
      | zero => exact absurd HA.out (by simp [galoislaw27_CosetDoubles.l0])
      | succ k2 =>
       have H := HA.out
       clear HA
       simp only [galoislaw27_CosetDoubles.l0] at H
       by_cases c56 : x49_2 < (y153.length : Int)
       ·rw [if_pos c56] at H
        have c56b0 : decide (x49_2 < (y153.length : Int)) = true := decide_eq_true c56
        clear c56
        by_cases c57 : 0 ≤ x49_2
        ·rw [if_pos c57] at H
         have c57b0 : decide (0 ≤ x49_2) = true := decide_eq_true c57
         clear c57
         by_cases c58 : x49_2 < (y153.length : Int)
         ·rw [if_pos c58] at H
          have c58b0 : decide (x49_2 < (y153.length : Int)) = true := decide_eq_true c58
          clear c58
          replace H := Option.bind_eq_some_iff.mp H
          obtain ⟨t158, A590, H⟩ := H
          replace H : (if t158 = 0 then (galoislaw27_CosetDoubles.l0 k2 t146 t149 t152 y153 (y153.length : Int) (wrap64 (x49_2 + 1)) a0_0 l0_1 a1_0 l1_1 a2_0 l2_1) else (if (t146.length : Int) = 0 then (if (t149.length : Int) = 0 then (some (t152 == t158)) else (some false)) else (some false))) = some r := H
          have A59 := Aside0.mk A590
          clear A590
          by_cases c60 : t158 = 0
          ·rw [if_pos c60] at H
           have c60b0 : (t158 == 0) = true := beq_iff_eq.mpr c60
           have c60b1 : (t158 != 0) = false := bne_eq_false_iff_eq.mpr c60
           clear c60
           have H' := Aside0.mk H
           clear H
           have p156 : 0 ≤ (x49_2 : Int) := of_decide_eq_true (by assumption)
           have q156 : x49_2 < (y153.length : Int) := of_decide_eq_true (by assumption)
           obtain ⟨ad156, A156_1, c156_1, e156, hx156_0, hx156_1, hl156_1, hi156_1⟩ := at_T24 (Kd.N_reads' HO_47.out).2.2 x49_2 p156 q156
           cases e156
           obtain ⟨ce156, hce156, hMe156, hcc156⟩ := Kd.N_get HO_47.out z24 x49_2 p156 (by first | exact q156 | exact of_decide_eq_true (by assumption) | (have e_ := (Kd.N_reads' HO_47.out).1;omega))
           obtain ⟨ua156_1, uc156_1, rfl, ul156_1, ge156_1⟩ := k24_openF hMe156
           have hv156_1 := hcc156 1 _ rfl
           rw [add_field _ _ 1 (by omega)] at hv156_1
           replace hv156_1 := Option.some.inj (hv156_1.symm.trans hx156_1)
           injection hv156_1 with hva_ hvn_ hvc_
           rw [hva_] at ge156_1
           rw [hvc_] at ul156_1
           have HL156_1 := Aside0.mk (show Kd.V (Kd.slice 3 (Kd.int .i64)) 43 _ w.heap.size _ _ ((rd_T24 y153 x49_2).f1) from Kd.V_mk ul156_1 ge156_1)
           clear hva_ hvn_ hvc_ ge156_1 ul156_1
           clear hcc156 hce156
           have HR156_1 := Aside0.mk hi156_1
           have HC156_1 := Aside0.mk hl156_1
           clear hi156_1 hl156_1
           replace p156 := eq_true p156
           replace q156 := eq_true q156
           as_aux_lemma =>
            go_wp2_with (first|((with_reducible refine gate_dst (N := 11) rfl ?_);(try (refine gate_guard (by rfl) ?_;dsimp only));refine box_event ?hg (N := 11) ?hd (cs := #[.int .i64 0, .slice none 0 0]) (t := 24) ?hr ?_;(case hd => rfl);(case hg => rfl);(case hr => first | (go_simp;done) | (go_simp;rfl));intro gb157 hg w61 hbox hb;have n0_ := Aside0.mk (Kd.N_below (Kd.N_elderB (Nst HO_7.out) gb157 (Nat.le_of_eq hg.symm)) hb);have n1_ := Aside0.mk (Kd.R_below (Rst HO_8.out) hb);have n2_ := Aside0.mk (Kd.N_below (Kd.N_elderB (Nst HO_47.out) gb157 (Nat.le_of_eq hg.symm)) hb);have n3_ := Aside0.mk (Kd.V_below (Kd.V_elderB (Vst HO_139001.out) gb157 (Nat.le_of_eq hg.symm)) hb);have n4_ := Aside0.mk (Kd.V_below (Kd.V_elderB (Vst HO_140001.out) gb157 (Nat.le_of_eq hg.symm)) hb);have n5_ := Aside0.mk (Kd.V_below (Kd.V_elderB (Vst HO_141001.out) gb157 (Nat.le_of_eq hg.symm)) hb);have n6_ := Aside0.mk (Kd.V_below (Kd.V_elderB (Vst HL156_1.out) gb157 (Nat.le_of_eq hg.symm)) hb);have n7_ := Aside0.mk (blk_below (blkst BK138.out) hb);have n8_ := Aside0.mk (blk_below (blkst BK139.out) hb);have n9_ := Aside0.mk (blk_below (blkst BK140.out) hb);have n10_ := Aside0.mk (Kd.C_below (by repeat (first|(with_reducible exact HR156_1.out) | (with_reducible refine Kd.C_alloc ?_ _) | (with_reducible refine Kd.C_drewN ?_ _) | (with_reducible refine Kd.C_drew ?_) | exact HR156_1.out)) hb);have n11_ := Aside0.mk (below_step (bel HB.out) hb);have n12_ := Aside0.mk (hbox);have n13_ := Aside0.mk ((by rw [hg];exact (below_size (bel HB.out)) : w.heap.size ≤ gb157));have n14_ := Aside0.mk ((by rw [hg];exact (below_size (bel HB.out)) : w.heap.size ≤ gb157));have n15_ := Aside0.mk ((by rw [hg];exact Nat.ne_of_lt (blk_lt (g := gb138) (o := .cells #[.int .i64 a0_0, .slice A0_1 l0_1.length c0_1] 24 (0, 0)) (blkst BK138.out)) : gb138 ≠ gb157));have n16_ := Aside0.mk ((by rw [hg];exact Nat.ne_of_gt (blk_lt (g := gb138) (o := .cells #[.int .i64 a0_0, .slice A0_1 l0_1.length c0_1] 24 (0, 0)) (blkst BK138.out)) : gb157 ≠ gb138));have n17_ := Aside0.mk ((by rw [hg];exact Nat.ne_of_lt (blk_lt (g := gb139) (o := .cells #[.int .i64 a1_0, .slice A1_1 l1_1.length c1_1] 24 (0, 0)) (blkst BK139.out)) : gb139 ≠ gb157));have n18_ := Aside0.mk ((by rw [hg];exact Nat.ne_of_gt (blk_lt (g := gb139) (o := .cells #[.int .i64 a1_0, .slice A1_1 l1_1.length c1_1] 24 (0, 0)) (blkst BK139.out)) : gb157 ≠ gb139));have n19_ := Aside0.mk ((by rw [hg];exact Nat.ne_of_lt (blk_lt (g := gb140) (o := .cells #[.int .i64 a2_0, .slice A2_1 l2_1.length c2_1] 24 (0, 0)) (blkst BK140.out)) : gb140 ≠ gb157));have n20_ := Aside0.mk ((by rw [hg];exact Nat.ne_of_gt (blk_lt (g := gb140) (o := .cells #[.int .i64 a2_0, .slice A2_1 l2_1.length c2_1] 24 (0, 0)) (blkst BK140.out)) : gb157 ≠ gb140));clear HO_7;clear HO_8;clear HO_47;clear HO_139001;clear HO_140001;clear HO_141001;clear HL156_1;clear BK138;clear BK139;clear BK140;clear HR156_1;clear HB;have HO_7 := n0_;have HO_8 := n1_;have HO_47 := n2_;have HO_139001 := n3_;have HO_140001 := n4_;have HO_141001 := n5_;have HL156_1 := n6_;have BK138 := n7_;have BK139 := n8_;have BK140 := n9_;have HR156_1 := n10_;have HB := n11_;have BK157 := n12_;have GW157 := n13_;have GE157 := n14_;have NB138_157 := n15_;have NB157_138 := n16_;have NB139_157 := n17_;have NB157_139 := n18_;have NB140_157 := n19_;have NB157_140 := n20_;clear n0_ n1_ n2_ n3_ n4_ n5_ n6_ n7_ n8_ n9_ n10_ n11_ n12_ n13_ n14_ n15_ n16_ n17_ n18_ n19_ n20_;clear hb hbox hg;have hnb62 := NB157_138.out;have hnc62 := NB138_157.out;have hnb63 := NB157_139.out;have hnc63 := NB139_157.out;have hnb64 := NB157_140.out;have hnc64 := NB140_157.out;have hcz65_0 : w61.cell? ⟨gb157, 0, none⟩ = some (.int .i64 0) := (blk_cell BK157.out 0).trans rfl;have hcz65_1 : w61.cell? ⟨gb157, 1, none⟩ = some (.slice none 0 0) := (blk_cell BK157.out 1).trans rfl;have hfz65_0 := blk_frozen BK157.out 0;have hfz65_1 := blk_frozen BK157.out 1) | ((with_reducible refine gate_callee (f := 14) rfl ?_);refine goesL_ (some 54) rfl rfl Try.func14 (by kernel_rfl) rfl #[.agg #[.int .i64 ((rd_T24 y153 x49_2).f0), .slice A156_1 ((rd_T24 y153 x49_2).f1).length c156_1]] rfl (by (try simp only [List.map_toArray, List.map_cons, List.map_nil]);first | done | rfl | (simp only [List.length_drop, List.length_take];rfl)) ?_;(with_reducible refine (galoisref23_Check.calls k2 ((rd_T24 y153 x49_2).f0) _ _ ((rd_T24 y153 x49_2).f1) t158 _ ?side1 ?side2 A59.out).mono ?_);(case side1 => repeat (first|exact ((Kd.V_reads' (by (with_reducible repeat (first|apply Kd.V_alloc | apply Kd.V_drewN | apply Kd.V_drew));exact (Kd.V_mono (Kd.V_far (p := ⟨gb157, 1, none⟩) (Kd.V_far (p := ⟨gb157, 0, none⟩) (Kd.V_mono HL156_1.out (fun k_ hk => (⟨hk, hk.2⟩ : _ ∧ k_ ≠ gb157))) (fun _ hk => hk.2) (.int .i64 ((rd_T24 y153 x49_2).f0))) (fun _ hk => hk.2) (.slice A156_1 ((rd_T24 y153 x49_2).f1).length c156_1)) (fun _ h_ => h_.1)))).2.2) | (with_reducible refine Kd.C_alloc ?_ _) | (with_reducible refine Kd.C_drewN ?_ _) | (with_reducible refine Kd.C_drew ?_)));(case side2 => exact HC156_1.out);rintro e w66 ⟨rfl, hb⟩;refine ⟨_, rfl, ?_⟩;have n0_ := Aside0.mk (Kd.N_below (by (with_reducible repeat (first|apply Kd.N_alloc | apply Kd.N_drewN | apply Kd.N_drew));exact (Kd.N_mono (Kd.N_far (p := ⟨gb157, 1, none⟩) (Kd.N_far (p := ⟨gb157, 0, none⟩) (Kd.N_mono HO_7.out (fun k_ hk => (⟨hk, hk.2⟩ : _ ∧ k_ ≠ gb157))) (fun _ hk => hk.2) (.int .i64 ((rd_T24 y153 x49_2).f0))) (fun _ hk => hk.2) (.slice A156_1 ((rd_T24 y153 x49_2).f1).length c156_1)) (fun _ h_ => h_.1))) hb);have n1_ := Aside0.mk (Kd.R_below (by (with_reducible repeat (first|apply Kd.R_alloc | apply Kd.R_drewN | apply Kd.R_drew));exact (Kd.R_mono (Kd.R_far (p := ⟨gb157, 1, none⟩) (Kd.R_far (p := ⟨gb157, 0, none⟩) (Kd.R_types HO_8.out BK157.out (by decide)) (fun _ hk => hk.2) (.int .i64 ((rd_T24 y153 x49_2).f0))) (fun _ hk => hk.2) (.slice A156_1 ((rd_T24 y153 x49_2).f1).length c156_1)) (fun _ h_ => h_.1))) hb);have n2_ := Aside0.mk (Kd.N_below (by (with_reducible repeat (first|apply Kd.N_alloc | apply Kd.N_drewN | apply Kd.N_drew));exact (Kd.N_mono (Kd.N_far (p := ⟨gb157, 1, none⟩) (Kd.N_far (p := ⟨gb157, 0, none⟩) (Kd.N_mono HO_47.out (fun k_ hk => (⟨hk, hk.2⟩ : _ ∧ k_ ≠ gb157))) (fun _ hk => hk.2) (.int .i64 ((rd_T24 y153 x49_2).f0))) (fun _ hk => hk.2) (.slice A156_1 ((rd_T24 y153 x49_2).f1).length c156_1)) (fun _ h_ => h_.1))) hb);have n3_ := Aside0.mk (Kd.V_below (by (with_reducible repeat (first|apply Kd.V_alloc | apply Kd.V_drewN | apply Kd.V_drew));exact (Kd.V_mono (Kd.V_far (p := ⟨gb157, 1, none⟩) (Kd.V_far (p := ⟨gb157, 0, none⟩) (Kd.V_mono HO_139001.out (fun k_ hk => (⟨hk, hk.2⟩ : _ ∧ k_ ≠ gb157))) (fun _ hk => hk.2) (.int .i64 ((rd_T24 y153 x49_2).f0))) (fun _ hk => hk.2) (.slice A156_1 ((rd_T24 y153 x49_2).f1).length c156_1)) (fun _ h_ => h_.1))) hb);have n4_ := Aside0.mk (Kd.V_below (by (with_reducible repeat (first|apply Kd.V_alloc | apply Kd.V_drewN | apply Kd.V_drew));exact (Kd.V_mono (Kd.V_far (p := ⟨gb157, 1, none⟩) (Kd.V_far (p := ⟨gb157, 0, none⟩) (Kd.V_mono HO_140001.out (fun k_ hk => (⟨hk, hk.2⟩ : _ ∧ k_ ≠ gb157))) (fun _ hk => hk.2) (.int .i64 ((rd_T24 y153 x49_2).f0))) (fun _ hk => hk.2) (.slice A156_1 ((rd_T24 y153 x49_2).f1).length c156_1)) (fun _ h_ => h_.1))) hb);have n5_ := Aside0.mk (Kd.V_below (by (with_reducible repeat (first|apply Kd.V_alloc | apply Kd.V_drewN | apply Kd.V_drew));exact (Kd.V_mono (Kd.V_far (p := ⟨gb157, 1, none⟩) (Kd.V_far (p := ⟨gb157, 0, none⟩) (Kd.V_mono HO_141001.out (fun k_ hk => (⟨hk, hk.2⟩ : _ ∧ k_ ≠ gb157))) (fun _ hk => hk.2) (.int .i64 ((rd_T24 y153 x49_2).f0))) (fun _ hk => hk.2) (.slice A156_1 ((rd_T24 y153 x49_2).f1).length c156_1)) (fun _ h_ => h_.1))) hb);have n6_ := Aside0.mk (Kd.V_below (by (with_reducible repeat (first|apply Kd.V_alloc | apply Kd.V_drewN | apply Kd.V_drew));exact (Kd.V_mono (Kd.V_far (p := ⟨gb157, 1, none⟩) (Kd.V_far (p := ⟨gb157, 0, none⟩) (Kd.V_mono HL156_1.out (fun k_ hk => (⟨hk, hk.2⟩ : _ ∧ k_ ≠ gb157))) (fun _ hk => hk.2) (.int .i64 ((rd_T24 y153 x49_2).f0))) (fun _ hk => hk.2) (.slice A156_1 ((rd_T24 y153 x49_2).f1).length c156_1)) (fun _ h_ => h_.1))) hb);have n7_ := Aside0.mk (blk_below (g := gb138) (o := .cells #[.int .i64 a0_0, .slice A0_1 l0_1.length c0_1] 24 (0, 0)) (by (with_reducible repeat (first|refine blk_drewN ?_ _ | refine blk_drew ?_ | refine blk_alloc ?_ _));refine blk_far ?_ NB138_157.out _;(with_reducible repeat (first|refine blk_drewN ?_ _ | refine blk_drew ?_ | refine blk_alloc ?_ _));refine blk_far ?_ NB138_157.out _;(with_reducible repeat (first|refine blk_drewN ?_ _ | refine blk_drew ?_ | refine blk_alloc ?_ _));exact BK138.out) hb);have n8_ := Aside0.mk (blk_below (g := gb139) (o := .cells #[.int .i64 a1_0, .slice A1_1 l1_1.length c1_1] 24 (0, 0)) (by (with_reducible repeat (first|refine blk_drewN ?_ _ | refine blk_drew ?_ | refine blk_alloc ?_ _));refine blk_far ?_ NB139_157.out _;(with_reducible repeat (first|refine blk_drewN ?_ _ | refine blk_drew ?_ | refine blk_alloc ?_ _));refine blk_far ?_ NB139_157.out _;(with_reducible repeat (first|refine blk_drewN ?_ _ | refine blk_drew ?_ | refine blk_alloc ?_ _));exact BK139.out) hb);have n9_ := Aside0.mk (blk_below (g := gb140) (o := .cells #[.int .i64 a2_0, .slice A2_1 l2_1.length c2_1] 24 (0, 0)) (by (with_reducible repeat (first|refine blk_drewN ?_ _ | refine blk_drew ?_ | refine blk_alloc ?_ _));refine blk_far ?_ NB140_157.out _;(with_reducible repeat (first|refine blk_drewN ?_ _ | refine blk_drew ?_ | refine blk_alloc ?_ _));refine blk_far ?_ NB140_157.out _;(with_reducible repeat (first|refine blk_drewN ?_ _ | refine blk_drew ?_ | refine blk_alloc ?_ _));exact BK140.out) hb);have n10_ := Aside0.mk (Kd.C_below ((Kd.V_reads' (by (with_reducible repeat (first|apply Kd.V_alloc | apply Kd.V_drewN | apply Kd.V_drew));exact (Kd.V_mono (Kd.V_far (p := ⟨gb157, 1, none⟩) (Kd.V_far (p := ⟨gb157, 0, none⟩) (Kd.V_mono HL156_1.out (fun k_ hk => (⟨hk, hk.2⟩ : _ ∧ k_ ≠ gb157))) (fun _ hk => hk.2) (.int .i64 ((rd_T24 y153 x49_2).f0))) (fun _ hk => hk.2) (.slice A156_1 ((rd_T24 y153 x49_2).f1).length c156_1)) (fun _ h_ => h_.1)))).2.2) hb);have n11_ := Aside0.mk (blk_below (g := gb157) (o := .cells #[.int .i64 ((rd_T24 y153 x49_2).f0), .slice A156_1 ((rd_T24 y153 x49_2).f1).length c156_1] 24 (0, 0)) (by (with_reducible repeat (first|refine blk_drewN ?_ _ | refine blk_drew ?_ | refine blk_alloc ?_ _));refine blk_put (cs := #[.int .i64 ((rd_T24 y153 x49_2).f0), .slice none 0 0]) ?_ 1 _ rfl;(with_reducible repeat (first|refine blk_drewN ?_ _ | refine blk_drew ?_ | refine blk_alloc ?_ _));refine blk_put (cs := #[.int .i64 0, .slice none 0 0]) ?_ 0 _ rfl;(with_reducible repeat (first|refine blk_drewN ?_ _ | refine blk_drew ?_ | refine blk_alloc ?_ _));exact BK157.out) hb);have n12_ := Aside0.mk (below_step (by repeat (first|(with_reducible first | exact HB.out | apply below_alloc | apply pw_below_drewN | apply below_drew1 | refine below_set ?_ GE138.out | refine below_set ?_ GE139.out | refine below_set ?_ GE140.out | refine below_set ?_ GE157.out) | exact HB.out)) hb);clear HO_7;clear HO_8;clear HO_47;clear HO_139001;clear HO_140001;clear HO_141001;clear HL156_1;clear BK138;clear BK139;clear BK140;clear HR156_1;clear BK157;clear HB;have HO_7 := n0_;have HO_8 := n1_;have HO_47 := n2_;have HO_139001 := n3_;have HO_140001 := n4_;have HO_141001 := n5_;have HL156_1 := n6_;have BK138 := n7_;have BK139 := n8_;have BK140 := n9_;have HR156_1 := n10_;have BK157 := n11_;have HB := n12_;clear n0_ n1_ n2_ n3_ n4_ n5_ n6_ n7_ n8_ n9_ n10_ n11_ n12_;(try clear hb);(try clear hb2);(try clear hk);(try clear hi)))
            go_roundg k2
            case measure => have := HJ3.out;have := HK2.out;omega
            case rel => exact ⟨(wrap64 (x49_2 + 1)), (by first | rfl | (simp;done) | (simp [*];done)), H', ⟨by have := HJ3.out;have := HK2.out;omega⟩, ⟨by (with_reducible repeat (first|apply Kd.N_alloc | apply Kd.N_drewN | apply Kd.N_drew));exact Kd.N_mono HO_7.out (fun _ hk => ⟨hk.1.1, ⟨hk.1.2.1, ⟨hk.1.2.2.1, ⟨hk.1.2.2.2.1, ⟨hk.1.2.2.2.2.1, hk.1.2.2.2.2.2⟩⟩⟩⟩⟩)⟩, ⟨Rst HO_8.out⟩, ⟨by (with_reducible repeat (first|apply Kd.N_alloc | apply Kd.N_drewN | apply Kd.N_drew));exact Kd.N_mono HO_47.out (fun _ hk => ⟨hk.1.1, ⟨hk.1.2.1, ⟨hk.1.2.2.1, ⟨hk.1.2.2.2.1, ⟨hk.1.2.2.2.2.1, hk.1.2.2.2.2.2⟩⟩⟩⟩⟩)⟩, ⟨by (with_reducible repeat (first|apply Kd.V_alloc | apply Kd.V_drewN | apply Kd.V_drew));exact Kd.V_mono HO_139001.out (fun _ hk => ⟨hk.1.1, ⟨hk.1.2.1, ⟨hk.1.2.2.1, ⟨hk.1.2.2.2.1, ⟨hk.1.2.2.2.2.1, ⟨hk.1.2.2.2.2.2.1, hk.1.2.2.2.2.2.2⟩⟩⟩⟩⟩⟩)⟩, ⟨by (with_reducible repeat (first|apply Kd.V_alloc | apply Kd.V_drewN | apply Kd.V_drew));exact Kd.V_mono HO_140001.out (fun _ hk => ⟨hk.1.1, ⟨hk.1.2.1, ⟨hk.1.2.2.1, ⟨hk.1.2.2.2.1, ⟨hk.1.2.2.2.2.1, ⟨hk.1.2.2.2.2.2.1, hk.1.2.2.2.2.2.2⟩⟩⟩⟩⟩⟩)⟩, ⟨by (with_reducible repeat (first|apply Kd.V_alloc | apply Kd.V_drewN | apply Kd.V_drew));exact Kd.V_mono HO_141001.out (fun _ hk => ⟨hk.1.1, ⟨hk.1.2.1, ⟨hk.1.2.2.1, ⟨hk.1.2.2.2.1, ⟨hk.1.2.2.2.2.1, ⟨hk.1.2.2.2.2.2.1, hk.1.2.2.2.2.2.2⟩⟩⟩⟩⟩⟩)⟩, ⟨blkst BK138.out⟩, ⟨blkst BK139.out⟩, ⟨blkst BK140.out⟩, ⟨by repeat (first|(with_reducible first | exact HB.out | apply below_alloc | apply pw_below_drewN | apply below_drew1 | refine below_set ?_ GE138.out | refine below_set ?_ GE139.out | refine below_set ?_ GE140.out | refine below_set ?_ GE157.out) | exact HB.out)⟩⟩
          ·rw [if_neg c60] at H
           have c60b0 : (t158 == 0) = false := beq_eq_false_iff_ne.mpr c60
           have c60b1 : (t158 != 0) = true := bne_iff_ne.mpr c60
           by_cases c67 : (t146.length : Int) = 0
           ·rw [if_pos c67] at H
            have c67b0 : ((t146.length : Int) == 0) = true := beq_iff_eq.mpr c67
            have c67b1 : ((t146.length : Int) != 0) = false := bne_eq_false_iff_eq.mpr c67
            clear c67
            by_cases c68 : (t149.length : Int) = 0
            ·rw [if_pos c68] at H
             have c68b0 : ((t149.length : Int) == 0) = true := beq_iff_eq.mpr c68
             have c68b1 : ((t149.length : Int) != 0) = false := bne_eq_false_iff_eq.mpr c68
             clear c68
             obtain rfl := Option.some.inj H
             have p156 : 0 ≤ (x49_2 : Int) := of_decide_eq_true (by assumption)
             have q156 : x49_2 < (y153.length : Int) := of_decide_eq_true (by assumption)
             obtain ⟨ad156, A156_1, c156_1, e156, hx156_0, hx156_1, hl156_1, hi156_1⟩ := at_T24 (Kd.N_reads' HO_47.out).2.2 x49_2 p156 q156
             cases e156
             obtain ⟨ce156, hce156, hMe156, hcc156⟩ := Kd.N_get HO_47.out z24 x49_2 p156 (by first | exact q156 | exact of_decide_eq_true (by assumption) | (have e_ := (Kd.N_reads' HO_47.out).1;omega))
             obtain ⟨ua156_1, uc156_1, rfl, ul156_1, ge156_1⟩ := k24_openF hMe156
             have hv156_1 := hcc156 1 _ rfl
             rw [add_field _ _ 1 (by omega)] at hv156_1
             replace hv156_1 := Option.some.inj (hv156_1.symm.trans hx156_1)
             injection hv156_1 with hva_ hvn_ hvc_
             rw [hva_] at ge156_1
             rw [hvc_] at ul156_1
             have HL156_1 := Aside0.mk (show Kd.V (Kd.slice 3 (Kd.int .i64)) 43 _ w.heap.size _ _ ((rd_T24 y153 x49_2).f1) from Kd.V_mk ul156_1 ge156_1)
             clear hva_ hvn_ hvc_ ge156_1 ul156_1
             clear hcc156 hce156
             have HR156_1 := Aside0.mk hi156_1
             have HC156_1 := Aside0.mk hl156_1
             clear hi156_1 hl156_1
             replace p156 := eq_true p156
             replace q156 := eq_true q156
             as_aux_lemma =>
              go_wp2_with (first|((with_reducible refine gate_dst (N := 11) rfl ?_);(try (refine gate_guard (by rfl) ?_;dsimp only));refine box_event ?hg (N := 11) ?hd (cs := #[.int .i64 0, .slice none 0 0]) (t := 24) ?hr ?_;(case hd => rfl);(case hg => rfl);(case hr => first | (go_simp;done) | (go_simp;rfl));intro gb157 hg w69 hbox hb;have n0_ := Aside0.mk (Kd.N_below (Kd.N_elderB (Nst HO_7.out) gb157 (Nat.le_of_eq hg.symm)) hb);have n1_ := Aside0.mk (Kd.R_below (Rst HO_8.out) hb);have n2_ := Aside0.mk (Kd.N_below (Kd.N_elderB (Nst HO_47.out) gb157 (Nat.le_of_eq hg.symm)) hb);have n3_ := Aside0.mk (Kd.V_below (Kd.V_elderB (Vst HO_139001.out) gb157 (Nat.le_of_eq hg.symm)) hb);have n4_ := Aside0.mk (Kd.V_below (Kd.V_elderB (Vst HO_140001.out) gb157 (Nat.le_of_eq hg.symm)) hb);have n5_ := Aside0.mk (Kd.V_below (Kd.V_elderB (Vst HO_141001.out) gb157 (Nat.le_of_eq hg.symm)) hb);have n6_ := Aside0.mk (Kd.V_below (Kd.V_elderB (Vst HL156_1.out) gb157 (Nat.le_of_eq hg.symm)) hb);have n7_ := Aside0.mk (blk_below (blkst BK138.out) hb);have n8_ := Aside0.mk (blk_below (blkst BK139.out) hb);have n9_ := Aside0.mk (blk_below (blkst BK140.out) hb);have n10_ := Aside0.mk (Kd.C_below (by repeat (first|(with_reducible exact HR156_1.out) | (with_reducible refine Kd.C_alloc ?_ _) | (with_reducible refine Kd.C_drewN ?_ _) | (with_reducible refine Kd.C_drew ?_) | exact HR156_1.out)) hb);have n11_ := Aside0.mk (below_step (bel HB.out) hb);have n12_ := Aside0.mk (hbox);have n13_ := Aside0.mk ((by rw [hg];exact (below_size (bel HB.out)) : w.heap.size ≤ gb157));have n14_ := Aside0.mk ((by rw [hg];exact (below_size (bel HB.out)) : w.heap.size ≤ gb157));have n15_ := Aside0.mk ((by rw [hg];exact Nat.ne_of_lt (blk_lt (g := gb138) (o := .cells #[.int .i64 a0_0, .slice A0_1 l0_1.length c0_1] 24 (0, 0)) (blkst BK138.out)) : gb138 ≠ gb157));have n16_ := Aside0.mk ((by rw [hg];exact Nat.ne_of_gt (blk_lt (g := gb138) (o := .cells #[.int .i64 a0_0, .slice A0_1 l0_1.length c0_1] 24 (0, 0)) (blkst BK138.out)) : gb157 ≠ gb138));have n17_ := Aside0.mk ((by rw [hg];exact Nat.ne_of_lt (blk_lt (g := gb139) (o := .cells #[.int .i64 a1_0, .slice A1_1 l1_1.length c1_1] 24 (0, 0)) (blkst BK139.out)) : gb139 ≠ gb157));have n18_ := Aside0.mk ((by rw [hg];exact Nat.ne_of_gt (blk_lt (g := gb139) (o := .cells #[.int .i64 a1_0, .slice A1_1 l1_1.length c1_1] 24 (0, 0)) (blkst BK139.out)) : gb157 ≠ gb139));have n19_ := Aside0.mk ((by rw [hg];exact Nat.ne_of_lt (blk_lt (g := gb140) (o := .cells #[.int .i64 a2_0, .slice A2_1 l2_1.length c2_1] 24 (0, 0)) (blkst BK140.out)) : gb140 ≠ gb157));have n20_ := Aside0.mk ((by rw [hg];exact Nat.ne_of_gt (blk_lt (g := gb140) (o := .cells #[.int .i64 a2_0, .slice A2_1 l2_1.length c2_1] 24 (0, 0)) (blkst BK140.out)) : gb157 ≠ gb140));clear HO_7;clear HO_8;clear HO_47;clear HO_139001;clear HO_140001;clear HO_141001;clear HL156_1;clear BK138;clear BK139;clear BK140;clear HR156_1;clear HB;have HO_7 := n0_;have HO_8 := n1_;have HO_47 := n2_;have HO_139001 := n3_;have HO_140001 := n4_;have HO_141001 := n5_;have HL156_1 := n6_;have BK138 := n7_;have BK139 := n8_;have BK140 := n9_;have HR156_1 := n10_;have HB := n11_;have BK157 := n12_;have GW157 := n13_;have GE157 := n14_;have NB138_157 := n15_;have NB157_138 := n16_;have NB139_157 := n17_;have NB157_139 := n18_;have NB140_157 := n19_;have NB157_140 := n20_;clear n0_ n1_ n2_ n3_ n4_ n5_ n6_ n7_ n8_ n9_ n10_ n11_ n12_ n13_ n14_ n15_ n16_ n17_ n18_ n19_ n20_;clear hb hbox hg;have hnb70 := NB157_138.out;have hnc70 := NB138_157.out;have hnb71 := NB157_139.out;have hnc71 := NB139_157.out;have hnb72 := NB157_140.out;have hnc72 := NB140_157.out;have hcz73_0 : w69.cell? ⟨gb157, 0, none⟩ = some (.int .i64 0) := (blk_cell BK157.out 0).trans rfl;have hcz73_1 : w69.cell? ⟨gb157, 1, none⟩ = some (.slice none 0 0) := (blk_cell BK157.out 1).trans rfl;have hfz73_0 := blk_frozen BK157.out 0;have hfz73_1 := blk_frozen BK157.out 1) | ((with_reducible refine gate_callee (f := 14) rfl ?_);refine goesL_ (some 54) rfl rfl Try.func14 (by kernel_rfl) rfl #[.agg #[.int .i64 ((rd_T24 y153 x49_2).f0), .slice A156_1 ((rd_T24 y153 x49_2).f1).length c156_1]] rfl (by (try simp only [List.map_toArray, List.map_cons, List.map_nil]);first | done | rfl | (simp only [List.length_drop, List.length_take];rfl)) ?_;(with_reducible refine (galoisref23_Check.calls k2 ((rd_T24 y153 x49_2).f0) _ _ ((rd_T24 y153 x49_2).f1) t158 _ ?side1 ?side2 A59.out).mono ?_);(case side1 => repeat (first|exact ((Kd.V_reads' (by (with_reducible repeat (first|apply Kd.V_alloc | apply Kd.V_drewN | apply Kd.V_drew));exact (Kd.V_mono (Kd.V_far (p := ⟨gb157, 1, none⟩) (Kd.V_far (p := ⟨gb157, 0, none⟩) (Kd.V_mono HL156_1.out (fun k_ hk => (⟨hk, hk.2⟩ : _ ∧ k_ ≠ gb157))) (fun _ hk => hk.2) (.int .i64 ((rd_T24 y153 x49_2).f0))) (fun _ hk => hk.2) (.slice A156_1 ((rd_T24 y153 x49_2).f1).length c156_1)) (fun _ h_ => h_.1)))).2.2) | (with_reducible refine Kd.C_alloc ?_ _) | (with_reducible refine Kd.C_drewN ?_ _) | (with_reducible refine Kd.C_drew ?_)));(case side2 => exact HC156_1.out);rintro e w74 ⟨rfl, hb⟩;refine ⟨_, rfl, ?_⟩;have n0_ := Aside0.mk (Kd.N_below (by (with_reducible repeat (first|apply Kd.N_alloc | apply Kd.N_drewN | apply Kd.N_drew));exact (Kd.N_mono (Kd.N_far (p := ⟨gb157, 1, none⟩) (Kd.N_far (p := ⟨gb157, 0, none⟩) (Kd.N_mono HO_7.out (fun k_ hk => (⟨hk, hk.2⟩ : _ ∧ k_ ≠ gb157))) (fun _ hk => hk.2) (.int .i64 ((rd_T24 y153 x49_2).f0))) (fun _ hk => hk.2) (.slice A156_1 ((rd_T24 y153 x49_2).f1).length c156_1)) (fun _ h_ => h_.1))) hb);have n1_ := Aside0.mk (Kd.R_below (by (with_reducible repeat (first|apply Kd.R_alloc | apply Kd.R_drewN | apply Kd.R_drew));exact (Kd.R_mono (Kd.R_far (p := ⟨gb157, 1, none⟩) (Kd.R_far (p := ⟨gb157, 0, none⟩) (Kd.R_types HO_8.out BK157.out (by decide)) (fun _ hk => hk.2) (.int .i64 ((rd_T24 y153 x49_2).f0))) (fun _ hk => hk.2) (.slice A156_1 ((rd_T24 y153 x49_2).f1).length c156_1)) (fun _ h_ => h_.1))) hb);have n2_ := Aside0.mk (Kd.N_below (by (with_reducible repeat (first|apply Kd.N_alloc | apply Kd.N_drewN | apply Kd.N_drew));exact (Kd.N_mono (Kd.N_far (p := ⟨gb157, 1, none⟩) (Kd.N_far (p := ⟨gb157, 0, none⟩) (Kd.N_mono HO_47.out (fun k_ hk => (⟨hk, hk.2⟩ : _ ∧ k_ ≠ gb157))) (fun _ hk => hk.2) (.int .i64 ((rd_T24 y153 x49_2).f0))) (fun _ hk => hk.2) (.slice A156_1 ((rd_T24 y153 x49_2).f1).length c156_1)) (fun _ h_ => h_.1))) hb);have n3_ := Aside0.mk (Kd.V_below (by (with_reducible repeat (first|apply Kd.V_alloc | apply Kd.V_drewN | apply Kd.V_drew));exact (Kd.V_mono (Kd.V_far (p := ⟨gb157, 1, none⟩) (Kd.V_far (p := ⟨gb157, 0, none⟩) (Kd.V_mono HO_139001.out (fun k_ hk => (⟨hk, hk.2⟩ : _ ∧ k_ ≠ gb157))) (fun _ hk => hk.2) (.int .i64 ((rd_T24 y153 x49_2).f0))) (fun _ hk => hk.2) (.slice A156_1 ((rd_T24 y153 x49_2).f1).length c156_1)) (fun _ h_ => h_.1))) hb);have n4_ := Aside0.mk (Kd.V_below (by (with_reducible repeat (first|apply Kd.V_alloc | apply Kd.V_drewN | apply Kd.V_drew));exact (Kd.V_mono (Kd.V_far (p := ⟨gb157, 1, none⟩) (Kd.V_far (p := ⟨gb157, 0, none⟩) (Kd.V_mono HO_140001.out (fun k_ hk => (⟨hk, hk.2⟩ : _ ∧ k_ ≠ gb157))) (fun _ hk => hk.2) (.int .i64 ((rd_T24 y153 x49_2).f0))) (fun _ hk => hk.2) (.slice A156_1 ((rd_T24 y153 x49_2).f1).length c156_1)) (fun _ h_ => h_.1))) hb);have n5_ := Aside0.mk (Kd.V_below (by (with_reducible repeat (first|apply Kd.V_alloc | apply Kd.V_drewN | apply Kd.V_drew));exact (Kd.V_mono (Kd.V_far (p := ⟨gb157, 1, none⟩) (Kd.V_far (p := ⟨gb157, 0, none⟩) (Kd.V_mono HO_141001.out (fun k_ hk => (⟨hk, hk.2⟩ : _ ∧ k_ ≠ gb157))) (fun _ hk => hk.2) (.int .i64 ((rd_T24 y153 x49_2).f0))) (fun _ hk => hk.2) (.slice A156_1 ((rd_T24 y153 x49_2).f1).length c156_1)) (fun _ h_ => h_.1))) hb);have n6_ := Aside0.mk (Kd.V_below (by (with_reducible repeat (first|apply Kd.V_alloc | apply Kd.V_drewN | apply Kd.V_drew));exact (Kd.V_mono (Kd.V_far (p := ⟨gb157, 1, none⟩) (Kd.V_far (p := ⟨gb157, 0, none⟩) (Kd.V_mono HL156_1.out (fun k_ hk => (⟨hk, hk.2⟩ : _ ∧ k_ ≠ gb157))) (fun _ hk => hk.2) (.int .i64 ((rd_T24 y153 x49_2).f0))) (fun _ hk => hk.2) (.slice A156_1 ((rd_T24 y153 x49_2).f1).length c156_1)) (fun _ h_ => h_.1))) hb);have n7_ := Aside0.mk (blk_below (g := gb138) (o := .cells #[.int .i64 a0_0, .slice A0_1 l0_1.length c0_1] 24 (0, 0)) (by (with_reducible repeat (first|refine blk_drewN ?_ _ | refine blk_drew ?_ | refine blk_alloc ?_ _));refine blk_far ?_ NB138_157.out _;(with_reducible repeat (first|refine blk_drewN ?_ _ | refine blk_drew ?_ | refine blk_alloc ?_ _));refine blk_far ?_ NB138_157.out _;(with_reducible repeat (first|refine blk_drewN ?_ _ | refine blk_drew ?_ | refine blk_alloc ?_ _));exact BK138.out) hb);have n8_ := Aside0.mk (blk_below (g := gb139) (o := .cells #[.int .i64 a1_0, .slice A1_1 l1_1.length c1_1] 24 (0, 0)) (by (with_reducible repeat (first|refine blk_drewN ?_ _ | refine blk_drew ?_ | refine blk_alloc ?_ _));refine blk_far ?_ NB139_157.out _;(with_reducible repeat (first|refine blk_drewN ?_ _ | refine blk_drew ?_ | refine blk_alloc ?_ _));refine blk_far ?_ NB139_157.out _;(with_reducible repeat (first|refine blk_drewN ?_ _ | refine blk_drew ?_ | refine blk_alloc ?_ _));exact BK139.out) hb);have n9_ := Aside0.mk (blk_below (g := gb140) (o := .cells #[.int .i64 a2_0, .slice A2_1 l2_1.length c2_1] 24 (0, 0)) (by (with_reducible repeat (first|refine blk_drewN ?_ _ | refine blk_drew ?_ | refine blk_alloc ?_ _));refine blk_far ?_ NB140_157.out _;(with_reducible repeat (first|refine blk_drewN ?_ _ | refine blk_drew ?_ | refine blk_alloc ?_ _));refine blk_far ?_ NB140_157.out _;(with_reducible repeat (first|refine blk_drewN ?_ _ | refine blk_drew ?_ | refine blk_alloc ?_ _));exact BK140.out) hb);have n10_ := Aside0.mk (Kd.C_below ((Kd.V_reads' (by (with_reducible repeat (first|apply Kd.V_alloc | apply Kd.V_drewN | apply Kd.V_drew));exact (Kd.V_mono (Kd.V_far (p := ⟨gb157, 1, none⟩) (Kd.V_far (p := ⟨gb157, 0, none⟩) (Kd.V_mono HL156_1.out (fun k_ hk => (⟨hk, hk.2⟩ : _ ∧ k_ ≠ gb157))) (fun _ hk => hk.2) (.int .i64 ((rd_T24 y153 x49_2).f0))) (fun _ hk => hk.2) (.slice A156_1 ((rd_T24 y153 x49_2).f1).length c156_1)) (fun _ h_ => h_.1)))).2.2) hb);have n11_ := Aside0.mk (blk_below (g := gb157) (o := .cells #[.int .i64 ((rd_T24 y153 x49_2).f0), .slice A156_1 ((rd_T24 y153 x49_2).f1).length c156_1] 24 (0, 0)) (by (with_reducible repeat (first|refine blk_drewN ?_ _ | refine blk_drew ?_ | refine blk_alloc ?_ _));refine blk_put (cs := #[.int .i64 ((rd_T24 y153 x49_2).f0), .slice none 0 0]) ?_ 1 _ rfl;(with_reducible repeat (first|refine blk_drewN ?_ _ | refine blk_drew ?_ | refine blk_alloc ?_ _));refine blk_put (cs := #[.int .i64 0, .slice none 0 0]) ?_ 0 _ rfl;(with_reducible repeat (first|refine blk_drewN ?_ _ | refine blk_drew ?_ | refine blk_alloc ?_ _));exact BK157.out) hb);have n12_ := Aside0.mk (below_step (by repeat (first|(with_reducible first | exact HB.out | apply below_alloc | apply pw_below_drewN | apply below_drew1 | refine below_set ?_ GE138.out | refine below_set ?_ GE139.out | refine below_set ?_ GE140.out | refine below_set ?_ GE157.out) | exact HB.out)) hb);clear HO_7;clear HO_8;clear HO_47;clear HO_139001;clear HO_140001;clear HO_141001;clear HL156_1;clear BK138;clear BK139;clear BK140;clear HR156_1;clear BK157;clear HB;have HO_7 := n0_;have HO_8 := n1_;have HO_47 := n2_;have HO_139001 := n3_;have HO_140001 := n4_;have HO_141001 := n5_;have HL156_1 := n6_;have BK138 := n7_;have BK139 := n8_;have BK140 := n9_;have HR156_1 := n10_;have BK157 := n11_;have HB := n12_;clear n0_ n1_ n2_ n3_ n4_ n5_ n6_ n7_ n8_ n9_ n10_ n11_ n12_;(try clear hb);(try clear hb2);(try clear hk);(try clear hi);obtain ⟨Ao75, co75, eo75⟩ := Kd.N_slice HO_7.out;subst eo75;obtain ⟨Ao76, co76, eo76⟩ := Kd.R_slice HO_8.out;subst eo76))
              go_ret
              exact ⟨by first | rfl | (simp [errW_none, errW_some] <;> rfl) | (simp [*, errW_none, errW_some] <;> rfl), by repeat (first|(with_reducible first | exact HB.out | apply below_alloc | apply pw_below_drewN | apply below_drew1 | refine below_set ?_ GE138.out | refine below_set ?_ GE139.out | refine below_set ?_ GE140.out | refine below_set ?_ GE157.out) | exact HB.out)⟩
            ·rw [if_neg c68] at H
             have c68b0 : ((t149.length : Int) == 0) = false := beq_eq_false_iff_ne.mpr c68
             have c68b1 : ((t149.length : Int) != 0) = true := bne_iff_ne.mpr c68
             have c68b2 : ¬ (t149 = []) := fun h_ => c68 (by rw [h_];rfl)
             obtain rfl := Option.some.inj H
             have p156 : 0 ≤ (x49_2 : Int) := of_decide_eq_true (by assumption)
             have q156 : x49_2 < (y153.length : Int) := of_decide_eq_true (by assumption)
             obtain ⟨ad156, A156_1, c156_1, e156, hx156_0, hx156_1, hl156_1, hi156_1⟩ := at_T24 (Kd.N_reads' HO_47.out).2.2 x49_2 p156 q156
             cases e156
             obtain ⟨ce156, hce156, hMe156, hcc156⟩ := Kd.N_get HO_47.out z24 x49_2 p156 (by first | exact q156 | exact of_decide_eq_true (by assumption) | (have e_ := (Kd.N_reads' HO_47.out).1;omega))
             obtain ⟨ua156_1, uc156_1, rfl, ul156_1, ge156_1⟩ := k24_openF hMe156
             have hv156_1 := hcc156 1 _ rfl
             rw [add_field _ _ 1 (by omega)] at hv156_1
             replace hv156_1 := Option.some.inj (hv156_1.symm.trans hx156_1)
             injection hv156_1 with hva_ hvn_ hvc_
             rw [hva_] at ge156_1
             rw [hvc_] at ul156_1
             have HL156_1 := Aside0.mk (show Kd.V (Kd.slice 3 (Kd.int .i64)) 43 _ w.heap.size _ _ ((rd_T24 y153 x49_2).f1) from Kd.V_mk ul156_1 ge156_1)
             clear hva_ hvn_ hvc_ ge156_1 ul156_1
             clear hcc156 hce156
             have HR156_1 := Aside0.mk hi156_1
             have HC156_1 := Aside0.mk hl156_1
             clear hi156_1 hl156_1
             replace p156 := eq_true p156
             replace q156 := eq_true q156
             as_aux_lemma =>
              go_wp2_with (first|((with_reducible refine gate_dst (N := 11) rfl ?_);(try (refine gate_guard (by rfl) ?_;dsimp only));refine box_event ?hg (N := 11) ?hd (cs := #[.int .i64 0, .slice none 0 0]) (t := 24) ?hr ?_;(case hd => rfl);(case hg => rfl);(case hr => first | (go_simp;done) | (go_simp;rfl));intro gb157 hg w77 hbox hb;have n0_ := Aside0.mk (Kd.N_below (Kd.N_elderB (Nst HO_7.out) gb157 (Nat.le_of_eq hg.symm)) hb);have n1_ := Aside0.mk (Kd.R_below (Rst HO_8.out) hb);have n2_ := Aside0.mk (Kd.N_below (Kd.N_elderB (Nst HO_47.out) gb157 (Nat.le_of_eq hg.symm)) hb);have n3_ := Aside0.mk (Kd.V_below (Kd.V_elderB (Vst HO_139001.out) gb157 (Nat.le_of_eq hg.symm)) hb);have n4_ := Aside0.mk (Kd.V_below (Kd.V_elderB (Vst HO_140001.out) gb157 (Nat.le_of_eq hg.symm)) hb);have n5_ := Aside0.mk (Kd.V_below (Kd.V_elderB (Vst HO_141001.out) gb157 (Nat.le_of_eq hg.symm)) hb);have n6_ := Aside0.mk (Kd.V_below (Kd.V_elderB (Vst HL156_1.out) gb157 (Nat.le_of_eq hg.symm)) hb);have n7_ := Aside0.mk (blk_below (blkst BK138.out) hb);have n8_ := Aside0.mk (blk_below (blkst BK139.out) hb);have n9_ := Aside0.mk (blk_below (blkst BK140.out) hb);have n10_ := Aside0.mk (Kd.C_below (by repeat (first|(with_reducible exact HR156_1.out) | (with_reducible refine Kd.C_alloc ?_ _) | (with_reducible refine Kd.C_drewN ?_ _) | (with_reducible refine Kd.C_drew ?_) | exact HR156_1.out)) hb);have n11_ := Aside0.mk (below_step (bel HB.out) hb);have n12_ := Aside0.mk (hbox);have n13_ := Aside0.mk ((by rw [hg];exact (below_size (bel HB.out)) : w.heap.size ≤ gb157));have n14_ := Aside0.mk ((by rw [hg];exact (below_size (bel HB.out)) : w.heap.size ≤ gb157));have n15_ := Aside0.mk ((by rw [hg];exact Nat.ne_of_lt (blk_lt (g := gb138) (o := .cells #[.int .i64 a0_0, .slice A0_1 l0_1.length c0_1] 24 (0, 0)) (blkst BK138.out)) : gb138 ≠ gb157));have n16_ := Aside0.mk ((by rw [hg];exact Nat.ne_of_gt (blk_lt (g := gb138) (o := .cells #[.int .i64 a0_0, .slice A0_1 l0_1.length c0_1] 24 (0, 0)) (blkst BK138.out)) : gb157 ≠ gb138));have n17_ := Aside0.mk ((by rw [hg];exact Nat.ne_of_lt (blk_lt (g := gb139) (o := .cells #[.int .i64 a1_0, .slice A1_1 l1_1.length c1_1] 24 (0, 0)) (blkst BK139.out)) : gb139 ≠ gb157));have n18_ := Aside0.mk ((by rw [hg];exact Nat.ne_of_gt (blk_lt (g := gb139) (o := .cells #[.int .i64 a1_0, .slice A1_1 l1_1.length c1_1] 24 (0, 0)) (blkst BK139.out)) : gb157 ≠ gb139));have n19_ := Aside0.mk ((by rw [hg];exact Nat.ne_of_lt (blk_lt (g := gb140) (o := .cells #[.int .i64 a2_0, .slice A2_1 l2_1.length c2_1] 24 (0, 0)) (blkst BK140.out)) : gb140 ≠ gb157));have n20_ := Aside0.mk ((by rw [hg];exact Nat.ne_of_gt (blk_lt (g := gb140) (o := .cells #[.int .i64 a2_0, .slice A2_1 l2_1.length c2_1] 24 (0, 0)) (blkst BK140.out)) : gb157 ≠ gb140));clear HO_7;clear HO_8;clear HO_47;clear HO_139001;clear HO_140001;clear HO_141001;clear HL156_1;clear BK138;clear BK139;clear BK140;clear HR156_1;clear HB;have HO_7 := n0_;have HO_8 := n1_;have HO_47 := n2_;have HO_139001 := n3_;have HO_140001 := n4_;have HO_141001 := n5_;have HL156_1 := n6_;have BK138 := n7_;have BK139 := n8_;have BK140 := n9_;have HR156_1 := n10_;have HB := n11_;have BK157 := n12_;have GW157 := n13_;have GE157 := n14_;have NB138_157 := n15_;have NB157_138 := n16_;have NB139_157 := n17_;have NB157_139 := n18_;have NB140_157 := n19_;have NB157_140 := n20_;clear n0_ n1_ n2_ n3_ n4_ n5_ n6_ n7_ n8_ n9_ n10_ n11_ n12_ n13_ n14_ n15_ n16_ n17_ n18_ n19_ n20_;clear hb hbox hg;have hnb78 := NB157_138.out;have hnc78 := NB138_157.out;have hnb79 := NB157_139.out;have hnc79 := NB139_157.out;have hnb80 := NB157_140.out;have hnc80 := NB140_157.out;have hcz81_0 : w77.cell? ⟨gb157, 0, none⟩ = some (.int .i64 0) := (blk_cell BK157.out 0).trans rfl;have hcz81_1 : w77.cell? ⟨gb157, 1, none⟩ = some (.slice none 0 0) := (blk_cell BK157.out 1).trans rfl;have hfz81_0 := blk_frozen BK157.out 0;have hfz81_1 := blk_frozen BK157.out 1) | ((with_reducible refine gate_callee (f := 14) rfl ?_);refine goesL_ (some 54) rfl rfl Try.func14 (by kernel_rfl) rfl #[.agg #[.int .i64 ((rd_T24 y153 x49_2).f0), .slice A156_1 ((rd_T24 y153 x49_2).f1).length c156_1]] rfl (by (try simp only [List.map_toArray, List.map_cons, List.map_nil]);first | done | rfl | (simp only [List.length_drop, List.length_take];rfl)) ?_;(with_reducible refine (galoisref23_Check.calls k2 ((rd_T24 y153 x49_2).f0) _ _ ((rd_T24 y153 x49_2).f1) t158 _ ?side1 ?side2 A59.out).mono ?_);(case side1 => repeat (first|exact ((Kd.V_reads' (by (with_reducible repeat (first|apply Kd.V_alloc | apply Kd.V_drewN | apply Kd.V_drew));exact (Kd.V_mono (Kd.V_far (p := ⟨gb157, 1, none⟩) (Kd.V_far (p := ⟨gb157, 0, none⟩) (Kd.V_mono HL156_1.out (fun k_ hk => (⟨hk, hk.2⟩ : _ ∧ k_ ≠ gb157))) (fun _ hk => hk.2) (.int .i64 ((rd_T24 y153 x49_2).f0))) (fun _ hk => hk.2) (.slice A156_1 ((rd_T24 y153 x49_2).f1).length c156_1)) (fun _ h_ => h_.1)))).2.2) | (with_reducible refine Kd.C_alloc ?_ _) | (with_reducible refine Kd.C_drewN ?_ _) | (with_reducible refine Kd.C_drew ?_)));(case side2 => exact HC156_1.out);rintro e w82 ⟨rfl, hb⟩;refine ⟨_, rfl, ?_⟩;have n0_ := Aside0.mk (Kd.N_below (by (with_reducible repeat (first|apply Kd.N_alloc | apply Kd.N_drewN | apply Kd.N_drew));exact (Kd.N_mono (Kd.N_far (p := ⟨gb157, 1, none⟩) (Kd.N_far (p := ⟨gb157, 0, none⟩) (Kd.N_mono HO_7.out (fun k_ hk => (⟨hk, hk.2⟩ : _ ∧ k_ ≠ gb157))) (fun _ hk => hk.2) (.int .i64 ((rd_T24 y153 x49_2).f0))) (fun _ hk => hk.2) (.slice A156_1 ((rd_T24 y153 x49_2).f1).length c156_1)) (fun _ h_ => h_.1))) hb);have n1_ := Aside0.mk (Kd.R_below (by (with_reducible repeat (first|apply Kd.R_alloc | apply Kd.R_drewN | apply Kd.R_drew));exact (Kd.R_mono (Kd.R_far (p := ⟨gb157, 1, none⟩) (Kd.R_far (p := ⟨gb157, 0, none⟩) (Kd.R_types HO_8.out BK157.out (by decide)) (fun _ hk => hk.2) (.int .i64 ((rd_T24 y153 x49_2).f0))) (fun _ hk => hk.2) (.slice A156_1 ((rd_T24 y153 x49_2).f1).length c156_1)) (fun _ h_ => h_.1))) hb);have n2_ := Aside0.mk (Kd.N_below (by (with_reducible repeat (first|apply Kd.N_alloc | apply Kd.N_drewN | apply Kd.N_drew));exact (Kd.N_mono (Kd.N_far (p := ⟨gb157, 1, none⟩) (Kd.N_far (p := ⟨gb157, 0, none⟩) (Kd.N_mono HO_47.out (fun k_ hk => (⟨hk, hk.2⟩ : _ ∧ k_ ≠ gb157))) (fun _ hk => hk.2) (.int .i64 ((rd_T24 y153 x49_2).f0))) (fun _ hk => hk.2) (.slice A156_1 ((rd_T24 y153 x49_2).f1).length c156_1)) (fun _ h_ => h_.1))) hb);have n3_ := Aside0.mk (Kd.V_below (by (with_reducible repeat (first|apply Kd.V_alloc | apply Kd.V_drewN | apply Kd.V_drew));exact (Kd.V_mono (Kd.V_far (p := ⟨gb157, 1, none⟩) (Kd.V_far (p := ⟨gb157, 0, none⟩) (Kd.V_mono HO_139001.out (fun k_ hk => (⟨hk, hk.2⟩ : _ ∧ k_ ≠ gb157))) (fun _ hk => hk.2) (.int .i64 ((rd_T24 y153 x49_2).f0))) (fun _ hk => hk.2) (.slice A156_1 ((rd_T24 y153 x49_2).f1).length c156_1)) (fun _ h_ => h_.1))) hb);have n4_ := Aside0.mk (Kd.V_below (by (with_reducible repeat (first|apply Kd.V_alloc | apply Kd.V_drewN | apply Kd.V_drew));exact (Kd.V_mono (Kd.V_far (p := ⟨gb157, 1, none⟩) (Kd.V_far (p := ⟨gb157, 0, none⟩) (Kd.V_mono HO_140001.out (fun k_ hk => (⟨hk, hk.2⟩ : _ ∧ k_ ≠ gb157))) (fun _ hk => hk.2) (.int .i64 ((rd_T24 y153 x49_2).f0))) (fun _ hk => hk.2) (.slice A156_1 ((rd_T24 y153 x49_2).f1).length c156_1)) (fun _ h_ => h_.1))) hb);have n5_ := Aside0.mk (Kd.V_below (by (with_reducible repeat (first|apply Kd.V_alloc | apply Kd.V_drewN | apply Kd.V_drew));exact (Kd.V_mono (Kd.V_far (p := ⟨gb157, 1, none⟩) (Kd.V_far (p := ⟨gb157, 0, none⟩) (Kd.V_mono HO_141001.out (fun k_ hk => (⟨hk, hk.2⟩ : _ ∧ k_ ≠ gb157))) (fun _ hk => hk.2) (.int .i64 ((rd_T24 y153 x49_2).f0))) (fun _ hk => hk.2) (.slice A156_1 ((rd_T24 y153 x49_2).f1).length c156_1)) (fun _ h_ => h_.1))) hb);have n6_ := Aside0.mk (Kd.V_below (by (with_reducible repeat (first|apply Kd.V_alloc | apply Kd.V_drewN | apply Kd.V_drew));exact (Kd.V_mono (Kd.V_far (p := ⟨gb157, 1, none⟩) (Kd.V_far (p := ⟨gb157, 0, none⟩) (Kd.V_mono HL156_1.out (fun k_ hk => (⟨hk, hk.2⟩ : _ ∧ k_ ≠ gb157))) (fun _ hk => hk.2) (.int .i64 ((rd_T24 y153 x49_2).f0))) (fun _ hk => hk.2) (.slice A156_1 ((rd_T24 y153 x49_2).f1).length c156_1)) (fun _ h_ => h_.1))) hb);have n7_ := Aside0.mk (blk_below (g := gb138) (o := .cells #[.int .i64 a0_0, .slice A0_1 l0_1.length c0_1] 24 (0, 0)) (by (with_reducible repeat (first|refine blk_drewN ?_ _ | refine blk_drew ?_ | refine blk_alloc ?_ _));refine blk_far ?_ NB138_157.out _;(with_reducible repeat (first|refine blk_drewN ?_ _ | refine blk_drew ?_ | refine blk_alloc ?_ _));refine blk_far ?_ NB138_157.out _;(with_reducible repeat (first|refine blk_drewN ?_ _ | refine blk_drew ?_ | refine blk_alloc ?_ _));exact BK138.out) hb);have n8_ := Aside0.mk (blk_below (g := gb139) (o := .cells #[.int .i64 a1_0, .slice A1_1 l1_1.length c1_1] 24 (0, 0)) (by (with_reducible repeat (first|refine blk_drewN ?_ _ | refine blk_drew ?_ | refine blk_alloc ?_ _));refine blk_far ?_ NB139_157.out _;(with_reducible repeat (first|refine blk_drewN ?_ _ | refine blk_drew ?_ | refine blk_alloc ?_ _));refine blk_far ?_ NB139_157.out _;(with_reducible repeat (first|refine blk_drewN ?_ _ | refine blk_drew ?_ | refine blk_alloc ?_ _));exact BK139.out) hb);have n9_ := Aside0.mk (blk_below (g := gb140) (o := .cells #[.int .i64 a2_0, .slice A2_1 l2_1.length c2_1] 24 (0, 0)) (by (with_reducible repeat (first|refine blk_drewN ?_ _ | refine blk_drew ?_ | refine blk_alloc ?_ _));refine blk_far ?_ NB140_157.out _;(with_reducible repeat (first|refine blk_drewN ?_ _ | refine blk_drew ?_ | refine blk_alloc ?_ _));refine blk_far ?_ NB140_157.out _;(with_reducible repeat (first|refine blk_drewN ?_ _ | refine blk_drew ?_ | refine blk_alloc ?_ _));exact BK140.out) hb);have n10_ := Aside0.mk (Kd.C_below ((Kd.V_reads' (by (with_reducible repeat (first|apply Kd.V_alloc | apply Kd.V_drewN | apply Kd.V_drew));exact (Kd.V_mono (Kd.V_far (p := ⟨gb157, 1, none⟩) (Kd.V_far (p := ⟨gb157, 0, none⟩) (Kd.V_mono HL156_1.out (fun k_ hk => (⟨hk, hk.2⟩ : _ ∧ k_ ≠ gb157))) (fun _ hk => hk.2) (.int .i64 ((rd_T24 y153 x49_2).f0))) (fun _ hk => hk.2) (.slice A156_1 ((rd_T24 y153 x49_2).f1).length c156_1)) (fun _ h_ => h_.1)))).2.2) hb);have n11_ := Aside0.mk (blk_below (g := gb157) (o := .cells #[.int .i64 ((rd_T24 y153 x49_2).f0), .slice A156_1 ((rd_T24 y153 x49_2).f1).length c156_1] 24 (0, 0)) (by (with_reducible repeat (first|refine blk_drewN ?_ _ | refine blk_drew ?_ | refine blk_alloc ?_ _));refine blk_put (cs := #[.int .i64 ((rd_T24 y153 x49_2).f0), .slice none 0 0]) ?_ 1 _ rfl;(with_reducible repeat (first|refine blk_drewN ?_ _ | refine blk_drew ?_ | refine blk_alloc ?_ _));refine blk_put (cs := #[.int .i64 0, .slice none 0 0]) ?_ 0 _ rfl;(with_reducible repeat (first|refine blk_drewN ?_ _ | refine blk_drew ?_ | refine blk_alloc ?_ _));exact BK157.out) hb);have n12_ := Aside0.mk (below_step (by repeat (first|(with_reducible first | exact HB.out | apply below_alloc | apply pw_below_drewN | apply below_drew1 | refine below_set ?_ GE138.out | refine below_set ?_ GE139.out | refine below_set ?_ GE140.out | refine below_set ?_ GE157.out) | exact HB.out)) hb);clear HO_7;clear HO_8;clear HO_47;clear HO_139001;clear HO_140001;clear HO_141001;clear HL156_1;clear BK138;clear BK139;clear BK140;clear HR156_1;clear BK157;clear HB;have HO_7 := n0_;have HO_8 := n1_;have HO_47 := n2_;have HO_139001 := n3_;have HO_140001 := n4_;have HO_141001 := n5_;have HL156_1 := n6_;have BK138 := n7_;have BK139 := n8_;have BK140 := n9_;have HR156_1 := n10_;have BK157 := n11_;have HB := n12_;clear n0_ n1_ n2_ n3_ n4_ n5_ n6_ n7_ n8_ n9_ n10_ n11_ n12_;(try clear hb);(try clear hb2);(try clear hk);(try clear hi);obtain ⟨Ao83, co83, eo83⟩ := Kd.N_slice HO_7.out;subst eo83;obtain ⟨Ao84, co84, eo84⟩ := Kd.R_slice HO_8.out;subst eo84))
              go_ret
              exact ⟨by first | rfl | (simp [errW_none, errW_some] <;> rfl) | (simp [*, errW_none, errW_some] <;> rfl), by repeat (first|(with_reducible first | exact HB.out | apply below_alloc | apply pw_below_drewN | apply below_drew1 | refine below_set ?_ GE138.out | refine below_set ?_ GE139.out | refine below_set ?_ GE140.out | refine below_set ?_ GE157.out) | exact HB.out)⟩
           ·rw [if_neg c67] at H
            have c67b0 : ((t146.length : Int) == 0) = false := beq_eq_false_iff_ne.mpr c67
            have c67b1 : ((t146.length : Int) != 0) = true := bne_iff_ne.mpr c67
            have c67b2 : ¬ (t146 = []) := fun h_ => c67 (by rw [h_];rfl)
            obtain rfl := Option.some.inj H
            have p156 : 0 ≤ (x49_2 : Int) := of_decide_eq_true (by assumption)
            have q156 : x49_2 < (y153.length : Int) := of_decide_eq_true (by assumption)
            obtain ⟨ad156, A156_1, c156_1, e156, hx156_0, hx156_1, hl156_1, hi156_1⟩ := at_T24 (Kd.N_reads' HO_47.out).2.2 x49_2 p156 q156
            cases e156
            obtain ⟨ce156, hce156, hMe156, hcc156⟩ := Kd.N_get HO_47.out z24 x49_2 p156 (by first | exact q156 | exact of_decide_eq_true (by assumption) | (have e_ := (Kd.N_reads' HO_47.out).1;omega))
            obtain ⟨ua156_1, uc156_1, rfl, ul156_1, ge156_1⟩ := k24_openF hMe156
            have hv156_1 := hcc156 1 _ rfl
            rw [add_field _ _ 1 (by omega)] at hv156_1
            replace hv156_1 := Option.some.inj (hv156_1.symm.trans hx156_1)
            injection hv156_1 with hva_ hvn_ hvc_
            rw [hva_] at ge156_1
            rw [hvc_] at ul156_1
            have HL156_1 := Aside0.mk (show Kd.V (Kd.slice 3 (Kd.int .i64)) 43 _ w.heap.size _ _ ((rd_T24 y153 x49_2).f1) from Kd.V_mk ul156_1 ge156_1)
            clear hva_ hvn_ hvc_ ge156_1 ul156_1
            clear hcc156 hce156
            have HR156_1 := Aside0.mk hi156_1
            have HC156_1 := Aside0.mk hl156_1
            clear hi156_1 hl156_1
            replace p156 := eq_true p156
            replace q156 := eq_true q156
            as_aux_lemma =>
             go_wp2_with (first|((with_reducible refine gate_dst (N := 11) rfl ?_);(try (refine gate_guard (by rfl) ?_;dsimp only));refine box_event ?hg (N := 11) ?hd (cs := #[.int .i64 0, .slice none 0 0]) (t := 24) ?hr ?_;(case hd => rfl);(case hg => rfl);(case hr => first | (go_simp;done) | (go_simp;rfl));intro gb157 hg w85 hbox hb;have n0_ := Aside0.mk (Kd.N_below (Kd.N_elderB (Nst HO_7.out) gb157 (Nat.le_of_eq hg.symm)) hb);have n1_ := Aside0.mk (Kd.R_below (Rst HO_8.out) hb);have n2_ := Aside0.mk (Kd.N_below (Kd.N_elderB (Nst HO_47.out) gb157 (Nat.le_of_eq hg.symm)) hb);have n3_ := Aside0.mk (Kd.V_below (Kd.V_elderB (Vst HO_139001.out) gb157 (Nat.le_of_eq hg.symm)) hb);have n4_ := Aside0.mk (Kd.V_below (Kd.V_elderB (Vst HO_140001.out) gb157 (Nat.le_of_eq hg.symm)) hb);have n5_ := Aside0.mk (Kd.V_below (Kd.V_elderB (Vst HO_141001.out) gb157 (Nat.le_of_eq hg.symm)) hb);have n6_ := Aside0.mk (Kd.V_below (Kd.V_elderB (Vst HL156_1.out) gb157 (Nat.le_of_eq hg.symm)) hb);have n7_ := Aside0.mk (blk_below (blkst BK138.out) hb);have n8_ := Aside0.mk (blk_below (blkst BK139.out) hb);have n9_ := Aside0.mk (blk_below (blkst BK140.out) hb);have n10_ := Aside0.mk (Kd.C_below (by repeat (first|(with_reducible exact HR156_1.out) | (with_reducible refine Kd.C_alloc ?_ _) | (with_reducible refine Kd.C_drewN ?_ _) | (with_reducible refine Kd.C_drew ?_) | exact HR156_1.out)) hb);have n11_ := Aside0.mk (below_step (bel HB.out) hb);have n12_ := Aside0.mk (hbox);have n13_ := Aside0.mk ((by rw [hg];exact (below_size (bel HB.out)) : w.heap.size ≤ gb157));have n14_ := Aside0.mk ((by rw [hg];exact (below_size (bel HB.out)) : w.heap.size ≤ gb157));have n15_ := Aside0.mk ((by rw [hg];exact Nat.ne_of_lt (blk_lt (g := gb138) (o := .cells #[.int .i64 a0_0, .slice A0_1 l0_1.length c0_1] 24 (0, 0)) (blkst BK138.out)) : gb138 ≠ gb157));have n16_ := Aside0.mk ((by rw [hg];exact Nat.ne_of_gt (blk_lt (g := gb138) (o := .cells #[.int .i64 a0_0, .slice A0_1 l0_1.length c0_1] 24 (0, 0)) (blkst BK138.out)) : gb157 ≠ gb138));have n17_ := Aside0.mk ((by rw [hg];exact Nat.ne_of_lt (blk_lt (g := gb139) (o := .cells #[.int .i64 a1_0, .slice A1_1 l1_1.length c1_1] 24 (0, 0)) (blkst BK139.out)) : gb139 ≠ gb157));have n18_ := Aside0.mk ((by rw [hg];exact Nat.ne_of_gt (blk_lt (g := gb139) (o := .cells #[.int .i64 a1_0, .slice A1_1 l1_1.length c1_1] 24 (0, 0)) (blkst BK139.out)) : gb157 ≠ gb139));have n19_ := Aside0.mk ((by rw [hg];exact Nat.ne_of_lt (blk_lt (g := gb140) (o := .cells #[.int .i64 a2_0, .slice A2_1 l2_1.length c2_1] 24 (0, 0)) (blkst BK140.out)) : gb140 ≠ gb157));have n20_ := Aside0.mk ((by rw [hg];exact Nat.ne_of_gt (blk_lt (g := gb140) (o := .cells #[.int .i64 a2_0, .slice A2_1 l2_1.length c2_1] 24 (0, 0)) (blkst BK140.out)) : gb157 ≠ gb140));clear HO_7;clear HO_8;clear HO_47;clear HO_139001;clear HO_140001;clear HO_141001;clear HL156_1;clear BK138;clear BK139;clear BK140;clear HR156_1;clear HB;have HO_7 := n0_;have HO_8 := n1_;have HO_47 := n2_;have HO_139001 := n3_;have HO_140001 := n4_;have HO_141001 := n5_;have HL156_1 := n6_;have BK138 := n7_;have BK139 := n8_;have BK140 := n9_;have HR156_1 := n10_;have HB := n11_;have BK157 := n12_;have GW157 := n13_;have GE157 := n14_;have NB138_157 := n15_;have NB157_138 := n16_;have NB139_157 := n17_;have NB157_139 := n18_;have NB140_157 := n19_;have NB157_140 := n20_;clear n0_ n1_ n2_ n3_ n4_ n5_ n6_ n7_ n8_ n9_ n10_ n11_ n12_ n13_ n14_ n15_ n16_ n17_ n18_ n19_ n20_;clear hb hbox hg;have hnb86 := NB157_138.out;have hnc86 := NB138_157.out;have hnb87 := NB157_139.out;have hnc87 := NB139_157.out;have hnb88 := NB157_140.out;have hnc88 := NB140_157.out;have hcz89_0 : w85.cell? ⟨gb157, 0, none⟩ = some (.int .i64 0) := (blk_cell BK157.out 0).trans rfl;have hcz89_1 : w85.cell? ⟨gb157, 1, none⟩ = some (.slice none 0 0) := (blk_cell BK157.out 1).trans rfl;have hfz89_0 := blk_frozen BK157.out 0;have hfz89_1 := blk_frozen BK157.out 1) | ((with_reducible refine gate_callee (f := 14) rfl ?_);refine goesL_ (some 54) rfl rfl Try.func14 (by kernel_rfl) rfl #[.agg #[.int .i64 ((rd_T24 y153 x49_2).f0), .slice A156_1 ((rd_T24 y153 x49_2).f1).length c156_1]] rfl (by (try simp only [List.map_toArray, List.map_cons, List.map_nil]);first | done | rfl | (simp only [List.length_drop, List.length_take];rfl)) ?_;(with_reducible refine (galoisref23_Check.calls k2 ((rd_T24 y153 x49_2).f0) _ _ ((rd_T24 y153 x49_2).f1) t158 _ ?side1 ?side2 A59.out).mono ?_);(case side1 => repeat (first|exact ((Kd.V_reads' (by (with_reducible repeat (first|apply Kd.V_alloc | apply Kd.V_drewN | apply Kd.V_drew));exact (Kd.V_mono (Kd.V_far (p := ⟨gb157, 1, none⟩) (Kd.V_far (p := ⟨gb157, 0, none⟩) (Kd.V_mono HL156_1.out (fun k_ hk => (⟨hk, hk.2⟩ : _ ∧ k_ ≠ gb157))) (fun _ hk => hk.2) (.int .i64 ((rd_T24 y153 x49_2).f0))) (fun _ hk => hk.2) (.slice A156_1 ((rd_T24 y153 x49_2).f1).length c156_1)) (fun _ h_ => h_.1)))).2.2) | (with_reducible refine Kd.C_alloc ?_ _) | (with_reducible refine Kd.C_drewN ?_ _) | (with_reducible refine Kd.C_drew ?_)));(case side2 => exact HC156_1.out);rintro e w90 ⟨rfl, hb⟩;refine ⟨_, rfl, ?_⟩;have n0_ := Aside0.mk (Kd.N_below (by (with_reducible repeat (first|apply Kd.N_alloc | apply Kd.N_drewN | apply Kd.N_drew));exact (Kd.N_mono (Kd.N_far (p := ⟨gb157, 1, none⟩) (Kd.N_far (p := ⟨gb157, 0, none⟩) (Kd.N_mono HO_7.out (fun k_ hk => (⟨hk, hk.2⟩ : _ ∧ k_ ≠ gb157))) (fun _ hk => hk.2) (.int .i64 ((rd_T24 y153 x49_2).f0))) (fun _ hk => hk.2) (.slice A156_1 ((rd_T24 y153 x49_2).f1).length c156_1)) (fun _ h_ => h_.1))) hb);have n1_ := Aside0.mk (Kd.R_below (by (with_reducible repeat (first|apply Kd.R_alloc | apply Kd.R_drewN | apply Kd.R_drew));exact (Kd.R_mono (Kd.R_far (p := ⟨gb157, 1, none⟩) (Kd.R_far (p := ⟨gb157, 0, none⟩) (Kd.R_types HO_8.out BK157.out (by decide)) (fun _ hk => hk.2) (.int .i64 ((rd_T24 y153 x49_2).f0))) (fun _ hk => hk.2) (.slice A156_1 ((rd_T24 y153 x49_2).f1).length c156_1)) (fun _ h_ => h_.1))) hb);have n2_ := Aside0.mk (Kd.N_below (by (with_reducible repeat (first|apply Kd.N_alloc | apply Kd.N_drewN | apply Kd.N_drew));exact (Kd.N_mono (Kd.N_far (p := ⟨gb157, 1, none⟩) (Kd.N_far (p := ⟨gb157, 0, none⟩) (Kd.N_mono HO_47.out (fun k_ hk => (⟨hk, hk.2⟩ : _ ∧ k_ ≠ gb157))) (fun _ hk => hk.2) (.int .i64 ((rd_T24 y153 x49_2).f0))) (fun _ hk => hk.2) (.slice A156_1 ((rd_T24 y153 x49_2).f1).length c156_1)) (fun _ h_ => h_.1))) hb);have n3_ := Aside0.mk (Kd.V_below (by (with_reducible repeat (first|apply Kd.V_alloc | apply Kd.V_drewN | apply Kd.V_drew));exact (Kd.V_mono (Kd.V_far (p := ⟨gb157, 1, none⟩) (Kd.V_far (p := ⟨gb157, 0, none⟩) (Kd.V_mono HO_139001.out (fun k_ hk => (⟨hk, hk.2⟩ : _ ∧ k_ ≠ gb157))) (fun _ hk => hk.2) (.int .i64 ((rd_T24 y153 x49_2).f0))) (fun _ hk => hk.2) (.slice A156_1 ((rd_T24 y153 x49_2).f1).length c156_1)) (fun _ h_ => h_.1))) hb);have n4_ := Aside0.mk (Kd.V_below (by (with_reducible repeat (first|apply Kd.V_alloc | apply Kd.V_drewN | apply Kd.V_drew));exact (Kd.V_mono (Kd.V_far (p := ⟨gb157, 1, none⟩) (Kd.V_far (p := ⟨gb157, 0, none⟩) (Kd.V_mono HO_140001.out (fun k_ hk => (⟨hk, hk.2⟩ : _ ∧ k_ ≠ gb157))) (fun _ hk => hk.2) (.int .i64 ((rd_T24 y153 x49_2).f0))) (fun _ hk => hk.2) (.slice A156_1 ((rd_T24 y153 x49_2).f1).length c156_1)) (fun _ h_ => h_.1))) hb);have n5_ := Aside0.mk (Kd.V_below (by (with_reducible repeat (first|apply Kd.V_alloc | apply Kd.V_drewN | apply Kd.V_drew));exact (Kd.V_mono (Kd.V_far (p := ⟨gb157, 1, none⟩) (Kd.V_far (p := ⟨gb157, 0, none⟩) (Kd.V_mono HO_141001.out (fun k_ hk => (⟨hk, hk.2⟩ : _ ∧ k_ ≠ gb157))) (fun _ hk => hk.2) (.int .i64 ((rd_T24 y153 x49_2).f0))) (fun _ hk => hk.2) (.slice A156_1 ((rd_T24 y153 x49_2).f1).length c156_1)) (fun _ h_ => h_.1))) hb);have n6_ := Aside0.mk (Kd.V_below (by (with_reducible repeat (first|apply Kd.V_alloc | apply Kd.V_drewN | apply Kd.V_drew));exact (Kd.V_mono (Kd.V_far (p := ⟨gb157, 1, none⟩) (Kd.V_far (p := ⟨gb157, 0, none⟩) (Kd.V_mono HL156_1.out (fun k_ hk => (⟨hk, hk.2⟩ : _ ∧ k_ ≠ gb157))) (fun _ hk => hk.2) (.int .i64 ((rd_T24 y153 x49_2).f0))) (fun _ hk => hk.2) (.slice A156_1 ((rd_T24 y153 x49_2).f1).length c156_1)) (fun _ h_ => h_.1))) hb);have n7_ := Aside0.mk (blk_below (g := gb138) (o := .cells #[.int .i64 a0_0, .slice A0_1 l0_1.length c0_1] 24 (0, 0)) (by (with_reducible repeat (first|refine blk_drewN ?_ _ | refine blk_drew ?_ | refine blk_alloc ?_ _));refine blk_far ?_ NB138_157.out _;(with_reducible repeat (first|refine blk_drewN ?_ _ | refine blk_drew ?_ | refine blk_alloc ?_ _));refine blk_far ?_ NB138_157.out _;(with_reducible repeat (first|refine blk_drewN ?_ _ | refine blk_drew ?_ | refine blk_alloc ?_ _));exact BK138.out) hb);have n8_ := Aside0.mk (blk_below (g := gb139) (o := .cells #[.int .i64 a1_0, .slice A1_1 l1_1.length c1_1] 24 (0, 0)) (by (with_reducible repeat (first|refine blk_drewN ?_ _ | refine blk_drew ?_ | refine blk_alloc ?_ _));refine blk_far ?_ NB139_157.out _;(with_reducible repeat (first|refine blk_drewN ?_ _ | refine blk_drew ?_ | refine blk_alloc ?_ _));refine blk_far ?_ NB139_157.out _;(with_reducible repeat (first|refine blk_drewN ?_ _ | refine blk_drew ?_ | refine blk_alloc ?_ _));exact BK139.out) hb);have n9_ := Aside0.mk (blk_below (g := gb140) (o := .cells #[.int .i64 a2_0, .slice A2_1 l2_1.length c2_1] 24 (0, 0)) (by (with_reducible repeat (first|refine blk_drewN ?_ _ | refine blk_drew ?_ | refine blk_alloc ?_ _));refine blk_far ?_ NB140_157.out _;(with_reducible repeat (first|refine blk_drewN ?_ _ | refine blk_drew ?_ | refine blk_alloc ?_ _));refine blk_far ?_ NB140_157.out _;(with_reducible repeat (first|refine blk_drewN ?_ _ | refine blk_drew ?_ | refine blk_alloc ?_ _));exact BK140.out) hb);have n10_ := Aside0.mk (Kd.C_below ((Kd.V_reads' (by (with_reducible repeat (first|apply Kd.V_alloc | apply Kd.V_drewN | apply Kd.V_drew));exact (Kd.V_mono (Kd.V_far (p := ⟨gb157, 1, none⟩) (Kd.V_far (p := ⟨gb157, 0, none⟩) (Kd.V_mono HL156_1.out (fun k_ hk => (⟨hk, hk.2⟩ : _ ∧ k_ ≠ gb157))) (fun _ hk => hk.2) (.int .i64 ((rd_T24 y153 x49_2).f0))) (fun _ hk => hk.2) (.slice A156_1 ((rd_T24 y153 x49_2).f1).length c156_1)) (fun _ h_ => h_.1)))).2.2) hb);have n11_ := Aside0.mk (blk_below (g := gb157) (o := .cells #[.int .i64 ((rd_T24 y153 x49_2).f0), .slice A156_1 ((rd_T24 y153 x49_2).f1).length c156_1] 24 (0, 0)) (by (with_reducible repeat (first|refine blk_drewN ?_ _ | refine blk_drew ?_ | refine blk_alloc ?_ _));refine blk_put (cs := #[.int .i64 ((rd_T24 y153 x49_2).f0), .slice none 0 0]) ?_ 1 _ rfl;(with_reducible repeat (first|refine blk_drewN ?_ _ | refine blk_drew ?_ | refine blk_alloc ?_ _));refine blk_put (cs := #[.int .i64 0, .slice none 0 0]) ?_ 0 _ rfl;(with_reducible repeat (first|refine blk_drewN ?_ _ | refine blk_drew ?_ | refine blk_alloc ?_ _));exact BK157.out) hb);have n12_ := Aside0.mk (below_step (by repeat (first|(with_reducible first | exact HB.out | apply below_alloc | apply pw_below_drewN | apply below_drew1 | refine below_set ?_ GE138.out | refine below_set ?_ GE139.out | refine below_set ?_ GE140.out | refine below_set ?_ GE157.out) | exact HB.out)) hb);clear HO_7;clear HO_8;clear HO_47;clear HO_139001;clear HO_140001;clear HO_141001;clear HL156_1;clear BK138;clear BK139;clear BK140;clear HR156_1;clear BK157;clear HB;have HO_7 := n0_;have HO_8 := n1_;have HO_47 := n2_;have HO_139001 := n3_;have HO_140001 := n4_;have HO_141001 := n5_;have HL156_1 := n6_;have BK138 := n7_;have BK139 := n8_;have BK140 := n9_;have HR156_1 := n10_;have BK157 := n11_;have HB := n12_;clear n0_ n1_ n2_ n3_ n4_ n5_ n6_ n7_ n8_ n9_ n10_ n11_ n12_;(try clear hb);(try clear hb2);(try clear hk);(try clear hi);obtain ⟨Ao91, co91, eo91⟩ := Kd.N_slice HO_7.out;subst eo91))
             go_ret
             exact ⟨by first | rfl | (simp [errW_none, errW_some] <;> rfl) | (simp [*, errW_none, errW_some] <;> rfl), by repeat (first|(with_reducible first | exact HB.out | apply below_alloc | apply pw_below_drewN | apply below_drew1 | refine below_set ?_ GE138.out | refine below_set ?_ GE139.out | refine below_set ?_ GE140.out | refine below_set ?_ GE157.out) | exact HB.out)⟩
         ·rw [if_neg c58] at H
          exact absurd H (by simp)
        ·rw [if_neg c57] at H
         exact absurd H (by simp)
       ·rw [if_neg c56] at H
        have c56b0 : decide (x49_2 < (y153.length : Int)) = false := decide_eq_false c56
        clear c56
        have HC92 := Aside0.mk H
        clear H
        go_upto_region 11 with (fail)
        go_cut [82] (fun v82 wc => ∃ (kq : Nat) (x82_91 : Bool), v82 = .bool x82_91 ∧ Aside0 (galoislaw27_CosetDoubles.j2 kq t146 t149 t152 x82_91 a0_0 l0_1 a1_0 l1_1 a2_0 l2_1 = some r) ∧ Aside0 (kq ≤ k2) ∧ Aside0 (Kd.N (Kd.slice 3 (Kd.int .i64)) 43 wc w.heap.size (fun k_ => ((P0_1_ k_ ∨ P1_1_ k_ ∨ P2_1_ k_) ∨ w.heap.size ≤ k_) ∧ some k_ ≠ (v150 : Value).ownBlock ∧ k_ ≠ gb138 ∧ k_ ≠ gb139 ∧ k_ ≠ gb140) v147 t146) ∧ Aside0 (Kd.R (Kd.int .i64) 3 wc w.heap.size (fun k_ => (w.heap.size ≤ k_)) v150 t149) ∧ Aside0 (Kd.V (Kd.slice 3 (Kd.int .i64)) 43 wc w.heap.size (fun k_ => ((P0_1_ k_ ∨ P1_1_ k_ ∨ P2_1_ k_) ∨ w.heap.size ≤ k_) ∧ some k_ ≠ (v147 : Value).ownBlock ∧ some k_ ≠ (v150 : Value).ownBlock ∧ k_ ≠ gb138 ∧ k_ ≠ gb139 ∧ k_ ≠ gb140) (.slice A0_1 l0_1.length c0_1) l0_1) ∧ Aside0 (Kd.V (Kd.slice 3 (Kd.int .i64)) 43 wc w.heap.size (fun k_ => ((P0_1_ k_ ∨ P1_1_ k_ ∨ P2_1_ k_) ∨ w.heap.size ≤ k_) ∧ some k_ ≠ (v147 : Value).ownBlock ∧ some k_ ≠ (v150 : Value).ownBlock ∧ k_ ≠ gb138 ∧ k_ ≠ gb139 ∧ k_ ≠ gb140) (.slice A1_1 l1_1.length c1_1) l1_1) ∧ Aside0 (Kd.V (Kd.slice 3 (Kd.int .i64)) 43 wc w.heap.size (fun k_ => ((P0_1_ k_ ∨ P1_1_ k_ ∨ P2_1_ k_) ∨ w.heap.size ≤ k_) ∧ some k_ ≠ (v147 : Value).ownBlock ∧ some k_ ≠ (v150 : Value).ownBlock ∧ k_ ≠ gb138 ∧ k_ ≠ gb139 ∧ k_ ≠ gb140) (.slice A2_1 l2_1.length c2_1) l2_1) ∧ Aside0 (wc.heap[gb138]? = some (.cells #[.int .i64 a0_0, (.slice A0_1 l0_1.length c0_1)] 24 (0, 0))) ∧ Aside0 (wc.heap[gb139]? = some (.cells #[.int .i64 a1_0, (.slice A1_1 l1_1.length c1_1)] 24 (0, 0))) ∧ Aside0 (wc.heap[gb140]? = some (.cells #[.int .i64 a2_0, (.slice A2_1 l2_1.length c2_1)] 24 (0, 0))) ∧ Aside0 (Below w.heap.size w wc))
        case first =>
         have H := HC92.out
         clear HC92
         by_cases c93 : a0_0 = a1_0
         ·rw [if_pos c93] at H
          have c93b0 : (a0_0 == a1_0) = true := beq_iff_eq.mpr c93
          have c93b1 : (a0_0 != a1_0) = false := bne_eq_false_iff_eq.mpr c93
          clear c93
          (first|rw [c93b0] | (simp only [i64_w, i32_w];rw [c93b0]) | skip)
          have H' := Aside0.mk H
          clear H
          have hnb94 := NB138_139.out
          have hnc94 := NB139_138.out
          have hnb95 := NB138_140.out
          have hnc95 := NB140_138.out
          have hcz96_0 : wr.cell? ⟨gb138, 0, none⟩ = some (.int .i64 a0_0) := (blk_cell BK138.out 0).trans rfl
          have hcz96_1 : wr.cell? ⟨gb138, 1, none⟩ = some (.slice A0_1 l0_1.length c0_1) := (blk_cell BK138.out 1).trans rfl
          have hfz96_0 := blk_frozen BK138.out 0
          have hfz96_1 := blk_frozen BK138.out 1
          have hnb97 := NB139_140.out
          have hnc97 := NB140_139.out
          have hcz98_0 : wr.cell? ⟨gb139, 0, none⟩ = some (.int .i64 a1_0) := (blk_cell BK139.out 0).trans rfl
          have hcz98_1 : wr.cell? ⟨gb139, 1, none⟩ = some (.slice A1_1 l1_1.length c1_1) := (blk_cell BK139.out 1).trans rfl
          have hfz98_0 := blk_frozen BK139.out 0
          have hfz98_1 := blk_frozen BK139.out 1
          have hcz99_0 : wr.cell? ⟨gb140, 0, none⟩ = some (.int .i64 a2_0) := (blk_cell BK140.out 0).trans rfl
          have hcz99_1 : wr.cell? ⟨gb140, 1, none⟩ = some (.slice A2_1 l2_1.length c2_1) := (blk_cell BK140.out 1).trans rfl
          have hfz99_0 := blk_frozen BK140.out 0
          have hfz99_1 := blk_frozen BK140.out 1
          as_aux_lemma =>
           go_wp2
           go_meet
           case rel => exact ⟨_, ((a0_0 != a2_0)), (by first | rfl | (simp;done) | (simp [*];done)), H', ⟨by have := HJ3.out;have := HK2.out;first | omega | exact Nat.le_refl _⟩, ⟨by (with_reducible repeat (first|apply Kd.N_alloc | apply Kd.N_drewN | apply Kd.N_drew));exact Kd.N_mono HO_7.out (fun _ hk => ⟨hk.1, ⟨hk.2.1, ⟨hk.2.2.2.1, ⟨hk.2.2.2.2.1, hk.2.2.2.2.2⟩⟩⟩⟩)⟩, ⟨Rst HO_8.out⟩, ⟨by (with_reducible repeat (first|apply Kd.V_alloc | apply Kd.V_drewN | apply Kd.V_drew));exact Kd.V_mono HO_139001.out (fun _ hk => ⟨hk.1, ⟨hk.2.1, ⟨hk.2.2.1, ⟨hk.2.2.2.2.1, ⟨hk.2.2.2.2.2.1, hk.2.2.2.2.2.2⟩⟩⟩⟩⟩)⟩, ⟨by (with_reducible repeat (first|apply Kd.V_alloc | apply Kd.V_drewN | apply Kd.V_drew));exact Kd.V_mono HO_140001.out (fun _ hk => ⟨hk.1, ⟨hk.2.1, ⟨hk.2.2.1, ⟨hk.2.2.2.2.1, ⟨hk.2.2.2.2.2.1, hk.2.2.2.2.2.2⟩⟩⟩⟩⟩)⟩, ⟨by (with_reducible repeat (first|apply Kd.V_alloc | apply Kd.V_drewN | apply Kd.V_drew));exact Kd.V_mono HO_141001.out (fun _ hk => ⟨hk.1, ⟨hk.2.1, ⟨hk.2.2.1, ⟨hk.2.2.2.2.1, ⟨hk.2.2.2.2.2.1, hk.2.2.2.2.2.2⟩⟩⟩⟩⟩)⟩, ⟨blkst BK138.out⟩, ⟨blkst BK139.out⟩, ⟨blkst BK140.out⟩, ⟨bel HB.out⟩⟩
         ·rw [if_neg c93] at H
          have c93b0 : (a0_0 == a1_0) = false := beq_eq_false_iff_ne.mpr c93
          have c93b1 : (a0_0 != a1_0) = true := bne_iff_ne.mpr c93
          (first|rw [c93b0] | (simp only [i64_w, i32_w];rw [c93b0]) | skip)
          have H' := Aside0.mk H
          clear H
          have hnb100 := NB138_139.out
          have hnc100 := NB139_138.out
          have hnb101 := NB138_140.out
          have hnc101 := NB140_138.out
          have hcz102_0 : wr.cell? ⟨gb138, 0, none⟩ = some (.int .i64 a0_0) := (blk_cell BK138.out 0).trans rfl
          have hcz102_1 : wr.cell? ⟨gb138, 1, none⟩ = some (.slice A0_1 l0_1.length c0_1) := (blk_cell BK138.out 1).trans rfl
          have hfz102_0 := blk_frozen BK138.out 0
          have hfz102_1 := blk_frozen BK138.out 1
          have hnb103 := NB139_140.out
          have hnc103 := NB140_139.out
          have hcz104_0 : wr.cell? ⟨gb139, 0, none⟩ = some (.int .i64 a1_0) := (blk_cell BK139.out 0).trans rfl
          have hcz104_1 : wr.cell? ⟨gb139, 1, none⟩ = some (.slice A1_1 l1_1.length c1_1) := (blk_cell BK139.out 1).trans rfl
          have hfz104_0 := blk_frozen BK139.out 0
          have hfz104_1 := blk_frozen BK139.out 1
          as_aux_lemma =>
           go_wp2
           go_meet
           case rel => exact ⟨_, (true), (by first | rfl | (simp;done) | (simp [*];done)), H', ⟨by have := HJ3.out;have := HK2.out;first | omega | exact Nat.le_refl _⟩, ⟨by (with_reducible repeat (first|apply Kd.N_alloc | apply Kd.N_drewN | apply Kd.N_drew));exact Kd.N_mono HO_7.out (fun _ hk => ⟨hk.1, ⟨hk.2.1, ⟨hk.2.2.2.1, ⟨hk.2.2.2.2.1, hk.2.2.2.2.2⟩⟩⟩⟩)⟩, ⟨Rst HO_8.out⟩, ⟨by (with_reducible repeat (first|apply Kd.V_alloc | apply Kd.V_drewN | apply Kd.V_drew));exact Kd.V_mono HO_139001.out (fun _ hk => ⟨hk.1, ⟨hk.2.1, ⟨hk.2.2.1, ⟨hk.2.2.2.2.1, ⟨hk.2.2.2.2.2.1, hk.2.2.2.2.2.2⟩⟩⟩⟩⟩)⟩, ⟨by (with_reducible repeat (first|apply Kd.V_alloc | apply Kd.V_drewN | apply Kd.V_drew));exact Kd.V_mono HO_140001.out (fun _ hk => ⟨hk.1, ⟨hk.2.1, ⟨hk.2.2.1, ⟨hk.2.2.2.2.1, ⟨hk.2.2.2.2.2.1, hk.2.2.2.2.2.2⟩⟩⟩⟩⟩)⟩, ⟨by (with_reducible repeat (first|apply Kd.V_alloc | apply Kd.V_drewN | apply Kd.V_drew));exact Kd.V_mono HO_141001.out (fun _ hk => ⟨hk.1, ⟨hk.2.1, ⟨hk.2.2.1, ⟨hk.2.2.2.2.1, ⟨hk.2.2.2.2.2.1, hk.2.2.2.2.2.2⟩⟩⟩⟩⟩)⟩, ⟨blkst BK138.out⟩, ⟨blkst BK139.out⟩, ⟨blkst BK140.out⟩, ⟨bel HB.out⟩⟩
        case rest =>
         clear HC92
         try clear c1
         try clear p1
         try clear q1
         try clear hx1
         try clear c2
         try clear p2
         try clear c3
         try clear c4
         try clear c5
         try clear c6
         try clear p6
         try clear c7
         try clear c8
         try clear c9
         try clear c10
         try clear c11
         try clear c13
         try clear c14
         try clear c15
         try clear p15
         try clear q15
         try clear hx15
         try clear c18
         try clear c20
         try clear c21
         try clear c24
         try clear c29
         try clear c30
         try clear c33
         try clear c39
         try clear c43
         try clear c44
         try clear c46
         try clear c56
         try clear c56b0
         try clear c57
         try clear c57b0
         try clear c58
         try clear c58b0
         try clear c60
         try clear c60b0
         try clear c60b1
         try clear c62
         try clear c63
         try clear c64
         try clear p64
         try clear c67
         try clear c67b0
         try clear c67b1
         try clear c67b2
         try clear c68
         try clear c68b0
         try clear c68b1
         try clear c68b2
         try clear c70
         try clear c71
         try clear c72
         try clear c78
         try clear c79
         try clear c80
         try clear c86
         try clear c87
         try clear c88
         try clear c93
         try clear c93b0
         try clear c93b1
         try clear c94
         try clear c95
         try clear c97
         try clear c100
         try clear c101
         try clear c103
         try clear hcz102_0
         try clear hcz102_1
         try clear hcz104_0
         try clear hcz104_1
         try clear hcz15_0
         try clear hcz15_1
         try clear hcz22_0
         try clear hcz22_1
         try clear hcz25_0
         try clear hcz25_1
         try clear hcz31_0
         try clear hcz31_1
         try clear hcz34_0
         try clear hcz34_1
         try clear hcz36_0
         try clear hcz36_1
         try clear hcz45_0
         try clear hcz45_1
         try clear hcz47_0
         try clear hcz47_1
         try clear hcz48_0
         try clear hcz48_1
         try clear hcz50_0
         try clear hcz50_1
         try clear hcz51_0
         try clear hcz51_1
         try clear hcz52_0
         try clear hcz52_1
         try clear hcz65_0
         try clear hcz65_1
         try clear hcz73_0
         try clear hcz73_1
         try clear hcz81_0
         try clear hcz81_1
         try clear hcz89_0
         try clear hcz89_1
         try clear hcz96_0
         try clear hcz96_1
         try clear hcz98_0
         try clear hcz98_1
         try clear hcz99_0
         try clear hcz99_1
         try clear hfz102_0
         try clear hfz102_1
         try clear hfz104_0
         try clear hfz104_1
         try clear hfz15_0
         try clear hfz15_1
         try clear hfz22_0
         try clear hfz22_1
         try clear hfz25_0
         try clear hfz25_1
         try clear hfz31_0
         try clear hfz31_1
         try clear hfz34_0
         try clear hfz34_1
         try clear hfz36_0
         try clear hfz36_1
         try clear hfz45_0
         try clear hfz45_1
         try clear hfz47_0
         try clear hfz47_1
         try clear hfz48_0
         try clear hfz48_1
         try clear hfz50_0
         try clear hfz50_1
         try clear hfz51_0
         try clear hfz51_1
         try clear hfz52_0
         try clear hfz52_1
         try clear hfz65_0
         try clear hfz65_1
         try clear hfz73_0
         try clear hfz73_1
         try clear hfz81_0
         try clear hfz81_1
         try clear hfz89_0
         try clear hfz89_1
         try clear hfz96_0
         try clear hfz96_1
         try clear hfz98_0
         try clear hfz98_1
         try clear hfz99_0
         try clear hfz99_1
         try clear hx156_0
         try clear hx156_1
         try clear p156
         try clear p2
         try clear q156
         obtain ⟨kq, x82_91, rfl, HA, HJ91, HO_7, HO_8, HO_139001, HO_140001, HO_141001, BK138, BK139, BK140, HB⟩ := hcut
         cases kq with
         | zero => exact absurd HA.out (by simp [galoislaw27_CosetDoubles.j2])
         | succ kj91 =>
          have H := HA.out
          clear HA
          simp only [galoislaw27_CosetDoubles.j2] at H
          by_cases c105 : x82_91 = true
          ·subst c105
           have H1 : (if (t146.length : Int) = 0 then (if (t149.length : Int) = 0 then (some (t152 == 2)) else (some false)) else (some false)) = some r := by rw [if_pos rfl] at H;exact H
           clear H
           have H := H1
           clear H1
           by_cases c106 : (t146.length : Int) = 0
           ·rw [if_pos c106] at H
            have c106b0 : ((t146.length : Int) == 0) = true := beq_iff_eq.mpr c106
            have c106b1 : ((t146.length : Int) != 0) = false := bne_eq_false_iff_eq.mpr c106
            clear c106
            by_cases c107 : (t149.length : Int) = 0
            ·rw [if_pos c107] at H
             have c107b0 : ((t149.length : Int) == 0) = true := beq_iff_eq.mpr c107
             have c107b1 : ((t149.length : Int) != 0) = false := bne_eq_false_iff_eq.mpr c107
             clear c107
             obtain rfl := Option.some.inj H
             obtain ⟨Ao108, co108, eo108⟩ := Kd.N_slice HO_7.out
             subst eo108
             obtain ⟨Ao109, co109, eo109⟩ := Kd.R_slice HO_8.out
             subst eo109
             as_aux_lemma =>
              go_wp2
              go_ret
              exact ⟨by first | rfl | (simp [errW_none, errW_some] <;> rfl) | (simp [*, errW_none, errW_some] <;> rfl), bel HB.out⟩
            ·rw [if_neg c107] at H
             have c107b0 : ((t149.length : Int) == 0) = false := beq_eq_false_iff_ne.mpr c107
             have c107b1 : ((t149.length : Int) != 0) = true := bne_iff_ne.mpr c107
             have c107b2 : ¬ (t149 = []) := fun h_ => c107 (by rw [h_];rfl)
             obtain rfl := Option.some.inj H
             obtain ⟨Ao110, co110, eo110⟩ := Kd.N_slice HO_7.out
             subst eo110
             obtain ⟨Ao111, co111, eo111⟩ := Kd.R_slice HO_8.out
             subst eo111
             as_aux_lemma =>
              go_wp2
              go_ret
              exact ⟨by first | rfl | (simp [errW_none, errW_some] <;> rfl) | (simp [*, errW_none, errW_some] <;> rfl), bel HB.out⟩
           ·rw [if_neg c106] at H
            have c106b0 : ((t146.length : Int) == 0) = false := beq_eq_false_iff_ne.mpr c106
            have c106b1 : ((t146.length : Int) != 0) = true := bne_iff_ne.mpr c106
            have c106b2 : ¬ (t146 = []) := fun h_ => c106 (by rw [h_];rfl)
            obtain rfl := Option.some.inj H
            obtain ⟨Ao112, co112, eo112⟩ := Kd.N_slice HO_7.out
            subst eo112
            as_aux_lemma =>
             go_wp2
             go_ret
             exact ⟨by first | rfl | (simp [errW_none, errW_some] <;> rfl) | (simp [*, errW_none, errW_some] <;> rfl), bel HB.out⟩
          ·replace c105 := Bool.eq_false_iff.mpr c105
           subst c105
           have H1 : ((galoislaw27_groups.f kj91 a0_0 l0_1 a1_0 l1_1).bind fun bt159 => ((galoislaw27_groups.f kj91 a0_0 l0_1 a2_0 l2_1).bind fun bt166 => (if bt159.2.2 = 0 then (galoislaw27_CosetDoubles.j3 kj91 t146 t149 t152 bt159.1 bt159.2.1 bt166.2.1 (bt166.2.2 != 0)) else (galoislaw27_CosetDoubles.j3 kj91 t146 t149 t152 bt159.1 bt159.2.1 bt166.2.1 true)))) = some r := by rw [if_neg (show ¬ (false = true) by decide)] at H;exact H
           clear H
           have H := H1
           clear H1
           replace H := Option.bind_eq_some_iff.mp H
           obtain ⟨⟨t159, t162, t165⟩, A1130, H⟩ := H
           replace H : ((galoislaw27_groups.f kj91 a0_0 l0_1 a2_0 l2_1).bind fun bt166 => (if t165 = 0 then (galoislaw27_CosetDoubles.j3 kj91 t146 t149 t152 t159 t162 bt166.2.1 (bt166.2.2 != 0)) else (galoislaw27_CosetDoubles.j3 kj91 t146 t149 t152 t159 t162 bt166.2.1 true))) = some r := H
           have A113 := Aside0.mk A1130
           clear A1130
           replace H := Option.bind_eq_some_iff.mp H
           obtain ⟨⟨t166, t169, t172⟩, A1140, H⟩ := H
           replace H : (if t165 = 0 then (galoislaw27_CosetDoubles.j3 kj91 t146 t149 t152 t159 t162 t169 (t172 != 0)) else (galoislaw27_CosetDoubles.j3 kj91 t146 t149 t152 t159 t162 t169 true)) = some r := H
           have A114 := Aside0.mk A1140
           clear A1140
           have HC115 := Aside0.mk H
           clear H
           have hnb116 := NB138_139.out
           have hnc116 := NB139_138.out
           have hnb117 := NB138_140.out
           have hnc117 := NB140_138.out
           have hcz118_0 : wc.cell? ⟨gb138, 0, none⟩ = some (.int .i64 a0_0) := (blk_cell BK138.out 0).trans rfl
           have hcz118_1 : wc.cell? ⟨gb138, 1, none⟩ = some (.slice A0_1 l0_1.length c0_1) := (blk_cell BK138.out 1).trans rfl
           have hfz118_0 := blk_frozen BK138.out 0
           have hfz118_1 := blk_frozen BK138.out 1
           have hnb119 := NB139_140.out
           have hnc119 := NB140_139.out
           have hcz120_0 : wc.cell? ⟨gb139, 0, none⟩ = some (.int .i64 a1_0) := (blk_cell BK139.out 0).trans rfl
           have hcz120_1 : wc.cell? ⟨gb139, 1, none⟩ = some (.slice A1_1 l1_1.length c1_1) := (blk_cell BK139.out 1).trans rfl
           have hfz120_0 := blk_frozen BK139.out 0
           have hfz120_1 := blk_frozen BK139.out 1
           go_upto_region 15 with (first|((with_reducible refine gate_callee (f := 18) rfl ?_);refine goesL_ (some 98) rfl rfl Try.func18 (by kernel_rfl) rfl #[.agg #[.int .i64 a0_0, .slice A0_1 l0_1.length c0_1], .agg #[.int .i64 a1_0, .slice A1_1 l1_1.length c1_1]] rfl (by (try simp only [List.map_toArray, List.map_cons, List.map_nil]);first | done | rfl | (simp only [List.length_drop, List.length_take];rfl)) ?_;(with_reducible refine (galoislaw27_groups.calls kj91 a0_0 _ _ l0_1 a1_0 _ _ l1_1 t159 t162 t165 _ ?side1 ?side2 ?side3 ?side4 A113.out).mono ?_);(case side1 => repeat (first|exact (Kd.V_reads' HO_139001.out).2.2 | (with_reducible refine Kd.C_alloc ?_ _) | (with_reducible refine Kd.C_drewN ?_ _) | (with_reducible refine Kd.C_drew ?_)));(case side2 => exact (Kd.V_reads' HO_139001.out).2.1);(case side3 => repeat (first|exact (Kd.V_reads' HO_140001.out).2.2 | (with_reducible refine Kd.C_alloc ?_ _) | (with_reducible refine Kd.C_drewN ?_ _) | (with_reducible refine Kd.C_drew ?_)));(case side4 => exact (Kd.V_reads' HO_140001.out).2.1);rintro e w121 ⟨v160, v163, rfl, ho0, ho1, hb⟩;refine ⟨_, rfl, ?_⟩;have n0_ := Aside0.mk (Kd.N_mono (Kd.N_told (Kd.N_told (Kd.N_old (Nst HO_7.out) hb) (by first | exact Kd.N_base ho0 | exact Kd.S_base ho0 | exact Kd.R_base ho0)) (by first | exact Kd.N_base ho1 | exact Kd.S_base ho1 | exact Kd.R_base ho1)) (fun _ h_ => h_.1));have n1_ := Aside0.mk (Kd.R_below (Rst HO_8.out) hb);have n2_ := Aside0.mk (Kd.V_mono (Kd.V_told (Kd.V_told (Kd.V_old (Vst HO_139001.out) hb) (by first | exact Kd.N_base ho0 | exact Kd.S_base ho0 | exact Kd.R_base ho0)) (by first | exact Kd.N_base ho1 | exact Kd.S_base ho1 | exact Kd.R_base ho1)) (fun _ h_ => h_.1));have n3_ := Aside0.mk (Kd.V_mono (Kd.V_told (Kd.V_told (Kd.V_old (Vst HO_140001.out) hb) (by first | exact Kd.N_base ho0 | exact Kd.S_base ho0 | exact Kd.R_base ho0)) (by first | exact Kd.N_base ho1 | exact Kd.S_base ho1 | exact Kd.R_base ho1)) (fun _ h_ => h_.1));have n4_ := Aside0.mk (Kd.V_mono (Kd.V_told (Kd.V_told (Kd.V_old (Vst HO_141001.out) hb) (by first | exact Kd.N_base ho0 | exact Kd.S_base ho0 | exact Kd.R_base ho0)) (by first | exact Kd.N_base ho1 | exact Kd.S_base ho1 | exact Kd.R_base ho1)) (fun _ h_ => h_.1));have n5_ := Aside0.mk (Kd.N_lower (Kd.N_mono (ok' := fun k_ => ((P0_1_ k_ ∨ P1_1_ k_ ∨ P2_1_ k_) ∨ w.heap.size ≤ k_) ∧ some k_ ≠ (v163 : Value).ownBlock ∧ some k_ ≠ (v147 : Value).ownBlock ∧ some k_ ≠ (v150 : Value).ownBlock ∧ k_ ≠ gb138 ∧ k_ ≠ gb139 ∧ k_ ≠ gb140) (Kd.S_N (Kd.S_bound ho0)) (fun k_ hk_ => ⟨(.inr (Nat.le_trans (below_size (bel HB.out)) hk_.2.1)), hk_.1, (Kd.fresh' (Kd.N_lt (Nst HO_7.out)) k_ hk_.2.1), (Kd.fresh' (Kd.R_lt (Rst HO_8.out)) k_ hk_.2.1), (Kd.freshB (g := gb138) (o := .cells #[.int .i64 a0_0, .slice A0_1 l0_1.length c0_1] 24 (0, 0)) (blkst BK138.out) k_ hk_.2.1), (Kd.freshB (g := gb139) (o := .cells #[.int .i64 a1_0, .slice A1_1 l1_1.length c1_1] 24 (0, 0)) (blkst BK139.out) k_ hk_.2.1), (Kd.freshB (g := gb140) (o := .cells #[.int .i64 a2_0, .slice A2_1 l2_1.length c2_1] 24 (0, 0)) (blkst BK140.out) k_ hk_.2.1)⟩)) (below_size (bel HB.out)));have n6_ := Aside0.mk (Kd.N_lower (Kd.N_mono (ok' := fun k_ => ((P0_1_ k_ ∨ P1_1_ k_ ∨ P2_1_ k_) ∨ w.heap.size ≤ k_) ∧ some k_ ≠ (v160 : Value).ownBlock ∧ some k_ ≠ (v147 : Value).ownBlock ∧ some k_ ≠ (v150 : Value).ownBlock ∧ k_ ≠ gb138 ∧ k_ ≠ gb139 ∧ k_ ≠ gb140) (Kd.S_N (Kd.S_bound ho1)) (fun k_ hk_ => ⟨(.inr (Nat.le_trans (below_size (bel HB.out)) hk_.2.1)), hk_.1, (Kd.fresh' (Kd.N_lt (Nst HO_7.out)) k_ hk_.2.1), (Kd.fresh' (Kd.R_lt (Rst HO_8.out)) k_ hk_.2.1), (Kd.freshB (g := gb138) (o := .cells #[.int .i64 a0_0, .slice A0_1 l0_1.length c0_1] 24 (0, 0)) (blkst BK138.out) k_ hk_.2.1), (Kd.freshB (g := gb139) (o := .cells #[.int .i64 a1_0, .slice A1_1 l1_1.length c1_1] 24 (0, 0)) (blkst BK139.out) k_ hk_.2.1), (Kd.freshB (g := gb140) (o := .cells #[.int .i64 a2_0, .slice A2_1 l2_1.length c2_1] 24 (0, 0)) (blkst BK140.out) k_ hk_.2.1)⟩)) (below_size (bel HB.out)));have n7_ := Aside0.mk (blk_below (blkst BK138.out) hb);have n8_ := Aside0.mk (blk_below (blkst BK139.out) hb);have n9_ := Aside0.mk (blk_below (blkst BK140.out) hb);have n10_ := Aside0.mk (below_step (bel HB.out) hb);clear HO_7;clear HO_8;clear HO_139001;clear HO_140001;clear HO_141001;clear BK138;clear BK139;clear BK140;clear HB;have HO_7 := n0_;have HO_8 := n1_;have HO_139001 := n2_;have HO_140001 := n3_;have HO_141001 := n4_;have HO161 := n5_;have HO164 := n6_;have BK138 := n7_;have BK139 := n8_;have BK140 := n9_;have HB := n10_;clear n0_ n1_ n2_ n3_ n4_ n5_ n6_ n7_ n8_ n9_ n10_;(try clear hb);(try clear hb2);(try clear hk);(try clear hi);(try clear ho0);(try clear ho1);have hcz122_0 : w121.cell? ⟨gb138, 0, none⟩ = some (.int .i64 a0_0) := (blk_cell BK138.out 0).trans rfl;have hcz122_1 : w121.cell? ⟨gb138, 1, none⟩ = some (.slice A0_1 l0_1.length c0_1) := (blk_cell BK138.out 1).trans rfl;have hfz122_0 := blk_frozen BK138.out 0;have hfz122_1 := blk_frozen BK138.out 1;have hcz123_0 : w121.cell? ⟨gb140, 0, none⟩ = some (.int .i64 a2_0) := (blk_cell BK140.out 0).trans rfl;have hcz123_1 : w121.cell? ⟨gb140, 1, none⟩ = some (.slice A2_1 l2_1.length c2_1) := (blk_cell BK140.out 1).trans rfl;have hfz123_0 := blk_frozen BK140.out 0;have hfz123_1 := blk_frozen BK140.out 1) | ((with_reducible refine gate_callee (f := 18) rfl ?_);refine goesL_ (some 105) rfl rfl Try.func18 (by kernel_rfl) rfl #[.agg #[.int .i64 a0_0, .slice A0_1 l0_1.length c0_1], .agg #[.int .i64 a2_0, .slice A2_1 l2_1.length c2_1]] rfl (by (try simp only [List.map_toArray, List.map_cons, List.map_nil]);first | done | rfl | (simp only [List.length_drop, List.length_take];rfl)) ?_;(with_reducible refine (galoislaw27_groups.calls kj91 a0_0 _ _ l0_1 a2_0 _ _ l2_1 t166 t169 t172 _ ?side1 ?side2 ?side3 ?side4 A114.out).mono ?_);(case side1 => repeat (first|exact (Kd.V_reads' HO_139001.out).2.2 | (with_reducible refine Kd.C_alloc ?_ _) | (with_reducible refine Kd.C_drewN ?_ _) | (with_reducible refine Kd.C_drew ?_)));(case side2 => exact (Kd.V_reads' HO_139001.out).2.1);(case side3 => repeat (first|exact (Kd.V_reads' HO_141001.out).2.2 | (with_reducible refine Kd.C_alloc ?_ _) | (with_reducible refine Kd.C_drewN ?_ _) | (with_reducible refine Kd.C_drew ?_)));(case side4 => exact (Kd.V_reads' HO_141001.out).2.1);rintro e w124 ⟨v167, v170, rfl, ho0, ho1, hb⟩;refine ⟨_, rfl, ?_⟩;have n0_ := Aside0.mk (Kd.N_mono (Kd.N_told (Kd.N_told (Kd.N_old (Nst HO_7.out) hb) (by first | exact Kd.N_base ho0 | exact Kd.S_base ho0 | exact Kd.R_base ho0)) (by first | exact Kd.N_base ho1 | exact Kd.S_base ho1 | exact Kd.R_base ho1)) (fun _ h_ => h_.1));have n1_ := Aside0.mk (Kd.R_below (Rst HO_8.out) hb);have n2_ := Aside0.mk (Kd.V_mono (Kd.V_told (Kd.V_told (Kd.V_old (Vst HO_139001.out) hb) (by first | exact Kd.N_base ho0 | exact Kd.S_base ho0 | exact Kd.R_base ho0)) (by first | exact Kd.N_base ho1 | exact Kd.S_base ho1 | exact Kd.R_base ho1)) (fun _ h_ => h_.1));have n3_ := Aside0.mk (Kd.V_mono (Kd.V_told (Kd.V_told (Kd.V_old (Vst HO_140001.out) hb) (by first | exact Kd.N_base ho0 | exact Kd.S_base ho0 | exact Kd.R_base ho0)) (by first | exact Kd.N_base ho1 | exact Kd.S_base ho1 | exact Kd.R_base ho1)) (fun _ h_ => h_.1));have n4_ := Aside0.mk (Kd.V_mono (Kd.V_told (Kd.V_told (Kd.V_old (Vst HO_141001.out) hb) (by first | exact Kd.N_base ho0 | exact Kd.S_base ho0 | exact Kd.R_base ho0)) (by first | exact Kd.N_base ho1 | exact Kd.S_base ho1 | exact Kd.R_base ho1)) (fun _ h_ => h_.1));have n5_ := Aside0.mk (Kd.N_mono (Kd.N_told (Kd.N_told (Kd.N_old (Nst HO161.out) hb) (by first | exact Kd.N_base ho0 | exact Kd.S_base ho0 | exact Kd.R_base ho0)) (by first | exact Kd.N_base ho1 | exact Kd.S_base ho1 | exact Kd.R_base ho1)) (fun _ h_ => h_.1));have n6_ := Aside0.mk (Kd.N_mono (Kd.N_told (Kd.N_told (Kd.N_old (Nst HO164.out) hb) (by first | exact Kd.N_base ho0 | exact Kd.S_base ho0 | exact Kd.R_base ho0)) (by first | exact Kd.N_base ho1 | exact Kd.S_base ho1 | exact Kd.R_base ho1)) (fun _ h_ => h_.1));have n7_ := Aside0.mk (Kd.N_lower (Kd.N_mono (ok' := fun k_ => ((P0_1_ k_ ∨ P1_1_ k_ ∨ P2_1_ k_) ∨ w.heap.size ≤ k_) ∧ some k_ ≠ (v170 : Value).ownBlock ∧ some k_ ≠ (v147 : Value).ownBlock ∧ some k_ ≠ (v150 : Value).ownBlock ∧ some k_ ≠ (v160 : Value).ownBlock ∧ some k_ ≠ (v163 : Value).ownBlock ∧ k_ ≠ gb138 ∧ k_ ≠ gb139 ∧ k_ ≠ gb140) (Kd.S_N (Kd.S_bound ho0)) (fun k_ hk_ => ⟨(.inr (Nat.le_trans (below_size (bel HB.out)) hk_.2.1)), hk_.1, (Kd.fresh' (Kd.N_lt (Nst HO_7.out)) k_ hk_.2.1), (Kd.fresh' (Kd.R_lt (Rst HO_8.out)) k_ hk_.2.1), (Kd.fresh' (Kd.N_lt (Nst HO161.out)) k_ hk_.2.1), (Kd.fresh' (Kd.N_lt (Nst HO164.out)) k_ hk_.2.1), (Kd.freshB (g := gb138) (o := .cells #[.int .i64 a0_0, .slice A0_1 l0_1.length c0_1] 24 (0, 0)) (blkst BK138.out) k_ hk_.2.1), (Kd.freshB (g := gb139) (o := .cells #[.int .i64 a1_0, .slice A1_1 l1_1.length c1_1] 24 (0, 0)) (blkst BK139.out) k_ hk_.2.1), (Kd.freshB (g := gb140) (o := .cells #[.int .i64 a2_0, .slice A2_1 l2_1.length c2_1] 24 (0, 0)) (blkst BK140.out) k_ hk_.2.1)⟩)) (below_size (bel HB.out)));have n8_ := Aside0.mk (Kd.N_lower (Kd.N_mono (ok' := fun k_ => ((P0_1_ k_ ∨ P1_1_ k_ ∨ P2_1_ k_) ∨ w.heap.size ≤ k_) ∧ some k_ ≠ (v167 : Value).ownBlock ∧ some k_ ≠ (v147 : Value).ownBlock ∧ some k_ ≠ (v150 : Value).ownBlock ∧ some k_ ≠ (v160 : Value).ownBlock ∧ some k_ ≠ (v163 : Value).ownBlock ∧ k_ ≠ gb138 ∧ k_ ≠ gb139 ∧ k_ ≠ gb140) (Kd.S_N (Kd.S_bound ho1)) (fun k_ hk_ => ⟨(.inr (Nat.le_trans (below_size (bel HB.out)) hk_.2.1)), hk_.1, (Kd.fresh' (Kd.N_lt (Nst HO_7.out)) k_ hk_.2.1), (Kd.fresh' (Kd.R_lt (Rst HO_8.out)) k_ hk_.2.1), (Kd.fresh' (Kd.N_lt (Nst HO161.out)) k_ hk_.2.1), (Kd.fresh' (Kd.N_lt (Nst HO164.out)) k_ hk_.2.1), (Kd.freshB (g := gb138) (o := .cells #[.int .i64 a0_0, .slice A0_1 l0_1.length c0_1] 24 (0, 0)) (blkst BK138.out) k_ hk_.2.1), (Kd.freshB (g := gb139) (o := .cells #[.int .i64 a1_0, .slice A1_1 l1_1.length c1_1] 24 (0, 0)) (blkst BK139.out) k_ hk_.2.1), (Kd.freshB (g := gb140) (o := .cells #[.int .i64 a2_0, .slice A2_1 l2_1.length c2_1] 24 (0, 0)) (blkst BK140.out) k_ hk_.2.1)⟩)) (below_size (bel HB.out)));have n9_ := Aside0.mk (blk_below (blkst BK138.out) hb);have n10_ := Aside0.mk (blk_below (blkst BK139.out) hb);have n11_ := Aside0.mk (blk_below (blkst BK140.out) hb);have n12_ := Aside0.mk (below_step (bel HB.out) hb);clear HO_7;clear HO_8;clear HO_139001;clear HO_140001;clear HO_141001;clear HO161;clear HO164;clear BK138;clear BK139;clear BK140;clear HB;have HO_7 := n0_;have HO_8 := n1_;have HO_139001 := n2_;have HO_140001 := n3_;have HO_141001 := n4_;have HO161 := n5_;have HO164 := n6_;have HO168 := n7_;have HO171 := n8_;have BK138 := n9_;have BK139 := n10_;have BK140 := n11_;have HB := n12_;clear n0_ n1_ n2_ n3_ n4_ n5_ n6_ n7_ n8_ n9_ n10_ n11_ n12_;(try clear hb);(try clear hb2);(try clear hk);(try clear hi);(try clear ho0);(try clear ho1)))
           (try simp only [Act.put, List.setIfInBounds_toArray, List.set_cons_zero, List.set_cons_succ])
           go_cut [114] (fun v114 wc => ∃ (kq : Nat) (x114_114 : Bool), v114 = .bool x114_114 ∧ Aside0 (galoislaw27_CosetDoubles.j3 kq t146 t149 t152 t159 t162 t169 x114_114 = some r) ∧ Aside0 (kq ≤ kj91) ∧ Aside0 (Kd.N (Kd.slice 3 (Kd.int .i64)) 43 wc w.heap.size (fun k_ => ((P0_1_ k_ ∨ P1_1_ k_ ∨ P2_1_ k_) ∨ w.heap.size ≤ k_) ∧ some k_ ≠ (v150 : Value).ownBlock ∧ some k_ ≠ (v160 : Value).ownBlock ∧ some k_ ≠ (v163 : Value).ownBlock ∧ some k_ ≠ (v170 : Value).ownBlock ∧ k_ ≠ gb138 ∧ k_ ≠ gb139 ∧ k_ ≠ gb140) v147 t146) ∧ Aside0 (Kd.R (Kd.int .i64) 3 wc w.heap.size (fun k_ => (w.heap.size ≤ k_)) v150 t149) ∧ Aside0 (Kd.N (Kd.slice 3 (Kd.int .i64)) 43 wc w.heap.size (fun k_ => ((P0_1_ k_ ∨ P1_1_ k_ ∨ P2_1_ k_) ∨ w.heap.size ≤ k_) ∧ some k_ ≠ (v147 : Value).ownBlock ∧ some k_ ≠ (v150 : Value).ownBlock ∧ some k_ ≠ (v163 : Value).ownBlock ∧ some k_ ≠ (v170 : Value).ownBlock ∧ k_ ≠ gb138 ∧ k_ ≠ gb139 ∧ k_ ≠ gb140) v160 t159) ∧ Aside0 (Kd.N (Kd.slice 3 (Kd.int .i64)) 43 wc w.heap.size (fun k_ => ((P0_1_ k_ ∨ P1_1_ k_ ∨ P2_1_ k_) ∨ w.heap.size ≤ k_) ∧ some k_ ≠ (v147 : Value).ownBlock ∧ some k_ ≠ (v150 : Value).ownBlock ∧ some k_ ≠ (v160 : Value).ownBlock ∧ some k_ ≠ (v170 : Value).ownBlock ∧ k_ ≠ gb138 ∧ k_ ≠ gb139 ∧ k_ ≠ gb140) v163 t162) ∧ Aside0 (Kd.N (Kd.slice 3 (Kd.int .i64)) 43 wc w.heap.size (fun k_ => ((P0_1_ k_ ∨ P1_1_ k_ ∨ P2_1_ k_) ∨ w.heap.size ≤ k_) ∧ some k_ ≠ (v147 : Value).ownBlock ∧ some k_ ≠ (v150 : Value).ownBlock ∧ some k_ ≠ (v160 : Value).ownBlock ∧ some k_ ≠ (v163 : Value).ownBlock ∧ k_ ≠ gb138 ∧ k_ ≠ gb139 ∧ k_ ≠ gb140) v170 t169) ∧ Aside0 (Kd.V (Kd.slice 3 (Kd.int .i64)) 43 wc w.heap.size (fun k_ => ((P0_1_ k_ ∨ P1_1_ k_ ∨ P2_1_ k_) ∨ w.heap.size ≤ k_) ∧ some k_ ≠ (v147 : Value).ownBlock ∧ some k_ ≠ (v150 : Value).ownBlock ∧ some k_ ≠ (v160 : Value).ownBlock ∧ some k_ ≠ (v163 : Value).ownBlock ∧ some k_ ≠ (v170 : Value).ownBlock ∧ k_ ≠ gb138 ∧ k_ ≠ gb139 ∧ k_ ≠ gb140) (.slice A0_1 l0_1.length c0_1) l0_1) ∧ Aside0 (Kd.V (Kd.slice 3 (Kd.int .i64)) 43 wc w.heap.size (fun k_ => ((P0_1_ k_ ∨ P1_1_ k_ ∨ P2_1_ k_) ∨ w.heap.size ≤ k_) ∧ some k_ ≠ (v147 : Value).ownBlock ∧ some k_ ≠ (v150 : Value).ownBlock ∧ some k_ ≠ (v160 : Value).ownBlock ∧ some k_ ≠ (v163 : Value).ownBlock ∧ some k_ ≠ (v170 : Value).ownBlock ∧ k_ ≠ gb138 ∧ k_ ≠ gb139 ∧ k_ ≠ gb140) (.slice A1_1 l1_1.length c1_1) l1_1) ∧ Aside0 (Kd.V (Kd.slice 3 (Kd.int .i64)) 43 wc w.heap.size (fun k_ => ((P0_1_ k_ ∨ P1_1_ k_ ∨ P2_1_ k_) ∨ w.heap.size ≤ k_) ∧ some k_ ≠ (v147 : Value).ownBlock ∧ some k_ ≠ (v150 : Value).ownBlock ∧ some k_ ≠ (v160 : Value).ownBlock ∧ some k_ ≠ (v163 : Value).ownBlock ∧ some k_ ≠ (v170 : Value).ownBlock ∧ k_ ≠ gb138 ∧ k_ ≠ gb139 ∧ k_ ≠ gb140) (.slice A2_1 l2_1.length c2_1) l2_1) ∧ Aside0 (wc.heap[gb138]? = some (.cells #[.int .i64 a0_0, (.slice A0_1 l0_1.length c0_1)] 24 (0, 0))) ∧ Aside0 (wc.heap[gb139]? = some (.cells #[.int .i64 a1_0, (.slice A1_1 l1_1.length c1_1)] 24 (0, 0))) ∧ Aside0 (wc.heap[gb140]? = some (.cells #[.int .i64 a2_0, (.slice A2_1 l2_1.length c2_1)] 24 (0, 0))) ∧ Aside0 (Below w.heap.size w wc))
           case first =>
            have H := HC115.out
            clear HC115
            by_cases c125 : t165 = 0
            ·rw [if_pos c125] at H
             have c125b0 : (t165 == 0) = true := beq_iff_eq.mpr c125
             have c125b1 : (t165 != 0) = false := bne_eq_false_iff_eq.mpr c125
             clear c125
             (first|rw [c125b0] | (simp only [i64_w, i32_w];rw [c125b0]) | skip)
             have H' := Aside0.mk H
             clear H
             as_aux_lemma =>
              go_wp2
              go_meet
              case rel => exact ⟨_, ((t172 != 0)), (by first | rfl | (simp;done) | (simp [*];done)), H', ⟨by have := HJ3.out;have := HK2.out;have := HJ91.out;first | omega | exact Nat.le_refl _⟩, ⟨by (with_reducible repeat (first|apply Kd.N_alloc | apply Kd.N_drewN | apply Kd.N_drew));exact Kd.N_mono HO_7.out (fun _ hk => ⟨hk.1.1.1.1.1, ⟨hk.1.1.1.1.2.1, ⟨hk.1.1.1.2, ⟨hk.1.1.2, ⟨hk.2, ⟨hk.1.1.1.1.2.2.1, ⟨hk.1.1.1.1.2.2.2.1, hk.1.1.1.1.2.2.2.2⟩⟩⟩⟩⟩⟩⟩)⟩, ⟨Rst HO_8.out⟩, ⟨by (with_reducible repeat (first|apply Kd.N_alloc | apply Kd.N_drewN | apply Kd.N_drew));exact Kd.N_mono HO161.out (fun _ hk => ⟨hk.1.1.1, ⟨hk.1.1.2.2.1, ⟨hk.1.1.2.2.2.1, ⟨hk.1.1.2.1, ⟨hk.2, ⟨hk.1.1.2.2.2.2.1, ⟨hk.1.1.2.2.2.2.2.1, hk.1.1.2.2.2.2.2.2⟩⟩⟩⟩⟩⟩⟩)⟩, ⟨by (with_reducible repeat (first|apply Kd.N_alloc | apply Kd.N_drewN | apply Kd.N_drew));exact Kd.N_mono HO164.out (fun _ hk => ⟨hk.1.1.1, ⟨hk.1.1.2.2.1, ⟨hk.1.1.2.2.2.1, ⟨hk.1.1.2.1, ⟨hk.2, ⟨hk.1.1.2.2.2.2.1, ⟨hk.1.1.2.2.2.2.2.1, hk.1.1.2.2.2.2.2.2⟩⟩⟩⟩⟩⟩⟩)⟩, ⟨by (with_reducible repeat (first|apply Kd.N_alloc | apply Kd.N_drewN | apply Kd.N_drew));exact Kd.N_mono HO171.out (fun _ hk => ⟨hk.1, ⟨hk.2.2.1, ⟨hk.2.2.2.1, ⟨hk.2.2.2.2.1, ⟨hk.2.2.2.2.2.1, ⟨hk.2.2.2.2.2.2.1, ⟨hk.2.2.2.2.2.2.2.1, hk.2.2.2.2.2.2.2.2⟩⟩⟩⟩⟩⟩⟩)⟩, ⟨by (with_reducible repeat (first|apply Kd.V_alloc | apply Kd.V_drewN | apply Kd.V_drew));exact Kd.V_mono HO_139001.out (fun _ hk => ⟨hk.1.1.1.1.1, ⟨hk.1.1.1.1.2.1, ⟨hk.1.1.1.1.2.2.1, ⟨hk.1.1.1.2, ⟨hk.1.1.2, ⟨hk.2, ⟨hk.1.1.1.1.2.2.2.1, ⟨hk.1.1.1.1.2.2.2.2.1, hk.1.1.1.1.2.2.2.2.2⟩⟩⟩⟩⟩⟩⟩⟩)⟩, ⟨by (with_reducible repeat (first|apply Kd.V_alloc | apply Kd.V_drewN | apply Kd.V_drew));exact Kd.V_mono HO_140001.out (fun _ hk => ⟨hk.1.1.1.1.1, ⟨hk.1.1.1.1.2.1, ⟨hk.1.1.1.1.2.2.1, ⟨hk.1.1.1.2, ⟨hk.1.1.2, ⟨hk.2, ⟨hk.1.1.1.1.2.2.2.1, ⟨hk.1.1.1.1.2.2.2.2.1, hk.1.1.1.1.2.2.2.2.2⟩⟩⟩⟩⟩⟩⟩⟩)⟩, ⟨by (with_reducible repeat (first|apply Kd.V_alloc | apply Kd.V_drewN | apply Kd.V_drew));exact Kd.V_mono HO_141001.out (fun _ hk => ⟨hk.1.1.1.1.1, ⟨hk.1.1.1.1.2.1, ⟨hk.1.1.1.1.2.2.1, ⟨hk.1.1.1.2, ⟨hk.1.1.2, ⟨hk.2, ⟨hk.1.1.1.1.2.2.2.1, ⟨hk.1.1.1.1.2.2.2.2.1, hk.1.1.1.1.2.2.2.2.2⟩⟩⟩⟩⟩⟩⟩⟩)⟩, ⟨blkst BK138.out⟩, ⟨blkst BK139.out⟩, ⟨blkst BK140.out⟩, ⟨bel HB.out⟩⟩
            ·rw [if_neg c125] at H
             have c125b0 : (t165 == 0) = false := beq_eq_false_iff_ne.mpr c125
             have c125b1 : (t165 != 0) = true := bne_iff_ne.mpr c125
             (first|rw [c125b0] | (simp only [i64_w, i32_w];rw [c125b0]) | skip)
             have H' := Aside0.mk H
             clear H
             as_aux_lemma =>
              go_wp2
              go_meet
              case rel => exact ⟨_, (true), (by first | rfl | (simp;done) | (simp [*];done)), H', ⟨by have := HJ3.out;have := HK2.out;have := HJ91.out;first | omega | exact Nat.le_refl _⟩, ⟨by (with_reducible repeat (first|apply Kd.N_alloc | apply Kd.N_drewN | apply Kd.N_drew));exact Kd.N_mono HO_7.out (fun _ hk => ⟨hk.1.1.1.1.1, ⟨hk.1.1.1.1.2.1, ⟨hk.1.1.1.2, ⟨hk.1.1.2, ⟨hk.2, ⟨hk.1.1.1.1.2.2.1, ⟨hk.1.1.1.1.2.2.2.1, hk.1.1.1.1.2.2.2.2⟩⟩⟩⟩⟩⟩⟩)⟩, ⟨Rst HO_8.out⟩, ⟨by (with_reducible repeat (first|apply Kd.N_alloc | apply Kd.N_drewN | apply Kd.N_drew));exact Kd.N_mono HO161.out (fun _ hk => ⟨hk.1.1.1, ⟨hk.1.1.2.2.1, ⟨hk.1.1.2.2.2.1, ⟨hk.1.1.2.1, ⟨hk.2, ⟨hk.1.1.2.2.2.2.1, ⟨hk.1.1.2.2.2.2.2.1, hk.1.1.2.2.2.2.2.2⟩⟩⟩⟩⟩⟩⟩)⟩, ⟨by (with_reducible repeat (first|apply Kd.N_alloc | apply Kd.N_drewN | apply Kd.N_drew));exact Kd.N_mono HO164.out (fun _ hk => ⟨hk.1.1.1, ⟨hk.1.1.2.2.1, ⟨hk.1.1.2.2.2.1, ⟨hk.1.1.2.1, ⟨hk.2, ⟨hk.1.1.2.2.2.2.1, ⟨hk.1.1.2.2.2.2.2.1, hk.1.1.2.2.2.2.2.2⟩⟩⟩⟩⟩⟩⟩)⟩, ⟨by (with_reducible repeat (first|apply Kd.N_alloc | apply Kd.N_drewN | apply Kd.N_drew));exact Kd.N_mono HO171.out (fun _ hk => ⟨hk.1, ⟨hk.2.2.1, ⟨hk.2.2.2.1, ⟨hk.2.2.2.2.1, ⟨hk.2.2.2.2.2.1, ⟨hk.2.2.2.2.2.2.1, ⟨hk.2.2.2.2.2.2.2.1, hk.2.2.2.2.2.2.2.2⟩⟩⟩⟩⟩⟩⟩)⟩, ⟨by (with_reducible repeat (first|apply Kd.V_alloc | apply Kd.V_drewN | apply Kd.V_drew));exact Kd.V_mono HO_139001.out (fun _ hk => ⟨hk.1.1.1.1.1, ⟨hk.1.1.1.1.2.1, ⟨hk.1.1.1.1.2.2.1, ⟨hk.1.1.1.2, ⟨hk.1.1.2, ⟨hk.2, ⟨hk.1.1.1.1.2.2.2.1, ⟨hk.1.1.1.1.2.2.2.2.1, hk.1.1.1.1.2.2.2.2.2⟩⟩⟩⟩⟩⟩⟩⟩)⟩, ⟨by (with_reducible repeat (first|apply Kd.V_alloc | apply Kd.V_drewN | apply Kd.V_drew));exact Kd.V_mono HO_140001.out (fun _ hk => ⟨hk.1.1.1.1.1, ⟨hk.1.1.1.1.2.1, ⟨hk.1.1.1.1.2.2.1, ⟨hk.1.1.1.2, ⟨hk.1.1.2, ⟨hk.2, ⟨hk.1.1.1.1.2.2.2.1, ⟨hk.1.1.1.1.2.2.2.2.1, hk.1.1.1.1.2.2.2.2.2⟩⟩⟩⟩⟩⟩⟩⟩)⟩, ⟨by (with_reducible repeat (first|apply Kd.V_alloc | apply Kd.V_drewN | apply Kd.V_drew));exact Kd.V_mono HO_141001.out (fun _ hk => ⟨hk.1.1.1.1.1, ⟨hk.1.1.1.1.2.1, ⟨hk.1.1.1.1.2.2.1, ⟨hk.1.1.1.2, ⟨hk.1.1.2, ⟨hk.2, ⟨hk.1.1.1.1.2.2.2.1, ⟨hk.1.1.1.1.2.2.2.2.1, hk.1.1.1.1.2.2.2.2.2⟩⟩⟩⟩⟩⟩⟩⟩)⟩, ⟨blkst BK138.out⟩, ⟨blkst BK139.out⟩, ⟨blkst BK140.out⟩, ⟨bel HB.out⟩⟩
           case rest =>
            clear HC115
            try clear c1
            try clear p1
            try clear q1
            try clear hx1
            try clear c2
            try clear p2
            try clear c3
            try clear c4
            try clear c5
            try clear c6
            try clear p6
            try clear c7
            try clear c8
            try clear c9
            try clear c10
            try clear c11
            try clear c12
            try clear c13
            try clear c14
            try clear c15
            try clear p15
            try clear q15
            try clear hx15
            try clear c18
            try clear c20
            try clear c21
            try clear c24
            try clear c29
            try clear c30
            try clear c33
            try clear c39
            try clear c43
            try clear c44
            try clear c46
            try clear c56
            try clear c56b0
            try clear c57
            try clear c57b0
            try clear c58
            try clear c58b0
            try clear c60
            try clear c60b0
            try clear c60b1
            try clear c62
            try clear c63
            try clear c64
            try clear p64
            try clear c67
            try clear c67b0
            try clear c67b1
            try clear c67b2
            try clear c68
            try clear c68b0
            try clear c68b1
            try clear c68b2
            try clear c70
            try clear c71
            try clear c72
            try clear c78
            try clear c79
            try clear c80
            try clear c86
            try clear c87
            try clear c88
            try clear c93
            try clear c93b0
            try clear c93b1
            try clear c94
            try clear c95
            try clear c97
            try clear c100
            try clear c101
            try clear c103
            try clear c105
            try clear c106
            try clear c106b0
            try clear c106b1
            try clear c106b2
            try clear c107
            try clear c107b0
            try clear c107b1
            try clear c107b2
            try clear c116
            try clear c117
            try clear c119
            try clear c125
            try clear c125b0
            try clear c125b1
            try clear hcz102_0
            try clear hcz102_1
            try clear hcz104_0
            try clear hcz104_1
            try clear hcz118_0
            try clear hcz118_1
            try clear hcz120_0
            try clear hcz120_1
            try clear hcz122_0
            try clear hcz122_1
            try clear hcz123_0
            try clear hcz123_1
            try clear hcz15_0
            try clear hcz15_1
            try clear hcz22_0
            try clear hcz22_1
            try clear hcz25_0
            try clear hcz25_1
            try clear hcz31_0
            try clear hcz31_1
            try clear hcz34_0
            try clear hcz34_1
            try clear hcz36_0
            try clear hcz36_1
            try clear hcz45_0
            try clear hcz45_1
            try clear hcz47_0
            try clear hcz47_1
            try clear hcz48_0
            try clear hcz48_1
            try clear hcz50_0
            try clear hcz50_1
            try clear hcz51_0
            try clear hcz51_1
            try clear hcz52_0
            try clear hcz52_1
            try clear hcz65_0
            try clear hcz65_1
            try clear hcz73_0
            try clear hcz73_1
            try clear hcz81_0
            try clear hcz81_1
            try clear hcz89_0
            try clear hcz89_1
            try clear hcz96_0
            try clear hcz96_1
            try clear hcz98_0
            try clear hcz98_1
            try clear hcz99_0
            try clear hcz99_1
            try clear hfz102_0
            try clear hfz102_1
            try clear hfz104_0
            try clear hfz104_1
            try clear hfz118_0
            try clear hfz118_1
            try clear hfz120_0
            try clear hfz120_1
            try clear hfz122_0
            try clear hfz122_1
            try clear hfz123_0
            try clear hfz123_1
            try clear hfz15_0
            try clear hfz15_1
            try clear hfz22_0
            try clear hfz22_1
            try clear hfz25_0
            try clear hfz25_1
            try clear hfz31_0
            try clear hfz31_1
            try clear hfz34_0
            try clear hfz34_1
            try clear hfz36_0
            try clear hfz36_1
            try clear hfz45_0
            try clear hfz45_1
            try clear hfz47_0
            try clear hfz47_1
            try clear hfz48_0
            try clear hfz48_1
            try clear hfz50_0
            try clear hfz50_1
            try clear hfz51_0
            try clear hfz51_1
            try clear hfz52_0
            try clear hfz52_1
            try clear hfz65_0
            try clear hfz65_1
            try clear hfz73_0
            try clear hfz73_1
            try clear hfz81_0
            try clear hfz81_1
            try clear hfz89_0
            try clear hfz89_1
            try clear hfz96_0
            try clear hfz96_1
            try clear hfz98_0
            try clear hfz98_1
            try clear hfz99_0
            try clear hfz99_1
            try clear hx156_0
            try clear hx156_1
            try clear p1
            try clear p15
            try clear p156
            try clear p2
            try clear p6
            try clear p64
            try clear q1
            try clear q15
            try clear q156
            obtain ⟨kq, x114_114, rfl, HA, HJ114, HO_7, HO_8, HO_13, HO_14, HO_17, HO_139001, HO_140001, HO_141001, BK138, BK139, BK140, HB⟩ := hcut
            cases kq with
            | zero => exact absurd HA.out (by simp [galoislaw27_CosetDoubles.j3])
            | succ kj114 =>
             have H := HA.out
             clear HA
             simp only [galoislaw27_CosetDoubles.j3] at H
             by_cases c126 : x114_114 = true
             ·subst c126
              have H1 : (if (t146.length : Int) = 0 then (if (t149.length : Int) = 0 then (some (t152 == 15)) else (some false)) else (some false)) = some r := by rw [if_pos rfl] at H;exact H
              clear H
              have H := H1
              clear H1
              by_cases c127 : (t146.length : Int) = 0
              ·rw [if_pos c127] at H
               have c127b0 : ((t146.length : Int) == 0) = true := beq_iff_eq.mpr c127
               have c127b1 : ((t146.length : Int) != 0) = false := bne_eq_false_iff_eq.mpr c127
               clear c127
               by_cases c128 : (t149.length : Int) = 0
               ·rw [if_pos c128] at H
                have c128b0 : ((t149.length : Int) == 0) = true := beq_iff_eq.mpr c128
                have c128b1 : ((t149.length : Int) != 0) = false := bne_eq_false_iff_eq.mpr c128
                clear c128
                obtain rfl := Option.some.inj H
                obtain ⟨Ao129, co129, eo129⟩ := Kd.N_slice HO_7.out
                subst eo129
                obtain ⟨Ao130, co130, eo130⟩ := Kd.R_slice HO_8.out
                subst eo130
                as_aux_lemma =>
                 go_wp2
                 go_ret
                 exact ⟨by first | rfl | (simp [errW_none, errW_some] <;> rfl) | (simp [*, errW_none, errW_some] <;> rfl), bel HB.out⟩
               ·rw [if_neg c128] at H
                have c128b0 : ((t149.length : Int) == 0) = false := beq_eq_false_iff_ne.mpr c128
                have c128b1 : ((t149.length : Int) != 0) = true := bne_iff_ne.mpr c128
                have c128b2 : ¬ (t149 = []) := fun h_ => c128 (by rw [h_];rfl)
                obtain rfl := Option.some.inj H
                obtain ⟨Ao131, co131, eo131⟩ := Kd.N_slice HO_7.out
                subst eo131
                obtain ⟨Ao132, co132, eo132⟩ := Kd.R_slice HO_8.out
                subst eo132
                as_aux_lemma =>
                 go_wp2
                 go_ret
                 exact ⟨by first | rfl | (simp [errW_none, errW_some] <;> rfl) | (simp [*, errW_none, errW_some] <;> rfl), bel HB.out⟩
              ·rw [if_neg c127] at H
               have c127b0 : ((t146.length : Int) == 0) = false := beq_eq_false_iff_ne.mpr c127
               have c127b1 : ((t146.length : Int) != 0) = true := bne_iff_ne.mpr c127
               have c127b2 : ¬ (t146 = []) := fun h_ => c127 (by rw [h_];rfl)
               obtain rfl := Option.some.inj H
               obtain ⟨Ao133, co133, eo133⟩ := Kd.N_slice HO_7.out
               subst eo133
               as_aux_lemma =>
                go_wp2
                go_ret
                exact ⟨by first | rfl | (simp [errW_none, errW_some] <;> rfl) | (simp [*, errW_none, errW_some] <;> rfl), bel HB.out⟩
             ·replace c126 := Bool.eq_false_iff.mpr c126
              subst c126
              have H1 : (if (t159.length : Int) > 120 then (galoislaw27_CosetDoubles.j4 kj114 t146 t149 t152 t159 t162 t169 true) else (if (t162.length : Int) > 24 then (galoislaw27_CosetDoubles.j4 kj114 t146 t149 t152 t159 t162 t169 true) else (galoislaw27_CosetDoubles.j4 kj114 t146 t149 t152 t159 t162 t169 (decide ((t169.length : Int) > 24))))) = some r := by rw [if_neg (show ¬ (false = true) by decide)] at H;exact H
              clear H
              have H := H1
              clear H1
              have HC134 := Aside0.mk H
              clear H
              go_upto_region 17 with (fail)
              go_cut [139] (fun v139 wc => ∃ (kq : Nat) (x139_133 : Bool), v139 = .bool x139_133 ∧ Aside0 (galoislaw27_CosetDoubles.j4 kq t146 t149 t152 t159 t162 t169 x139_133 = some r) ∧ Aside0 (kq ≤ kj114) ∧ Aside0 (Kd.N (Kd.slice 3 (Kd.int .i64)) 43 wc w.heap.size (fun k_ => ((P0_1_ k_ ∨ P1_1_ k_ ∨ P2_1_ k_) ∨ w.heap.size ≤ k_) ∧ some k_ ≠ (v150 : Value).ownBlock ∧ some k_ ≠ (v160 : Value).ownBlock ∧ some k_ ≠ (v163 : Value).ownBlock ∧ some k_ ≠ (v170 : Value).ownBlock ∧ k_ ≠ gb138 ∧ k_ ≠ gb139 ∧ k_ ≠ gb140) v147 t146) ∧ Aside0 (Kd.R (Kd.int .i64) 3 wc w.heap.size (fun k_ => (w.heap.size ≤ k_)) v150 t149) ∧ Aside0 (Kd.N (Kd.slice 3 (Kd.int .i64)) 43 wc w.heap.size (fun k_ => ((P0_1_ k_ ∨ P1_1_ k_ ∨ P2_1_ k_) ∨ w.heap.size ≤ k_) ∧ some k_ ≠ (v147 : Value).ownBlock ∧ some k_ ≠ (v150 : Value).ownBlock ∧ some k_ ≠ (v163 : Value).ownBlock ∧ some k_ ≠ (v170 : Value).ownBlock ∧ k_ ≠ gb138 ∧ k_ ≠ gb139 ∧ k_ ≠ gb140) v160 t159) ∧ Aside0 (Kd.N (Kd.slice 3 (Kd.int .i64)) 43 wc w.heap.size (fun k_ => ((P0_1_ k_ ∨ P1_1_ k_ ∨ P2_1_ k_) ∨ w.heap.size ≤ k_) ∧ some k_ ≠ (v147 : Value).ownBlock ∧ some k_ ≠ (v150 : Value).ownBlock ∧ some k_ ≠ (v160 : Value).ownBlock ∧ some k_ ≠ (v170 : Value).ownBlock ∧ k_ ≠ gb138 ∧ k_ ≠ gb139 ∧ k_ ≠ gb140) v163 t162) ∧ Aside0 (Kd.N (Kd.slice 3 (Kd.int .i64)) 43 wc w.heap.size (fun k_ => ((P0_1_ k_ ∨ P1_1_ k_ ∨ P2_1_ k_) ∨ w.heap.size ≤ k_) ∧ some k_ ≠ (v147 : Value).ownBlock ∧ some k_ ≠ (v150 : Value).ownBlock ∧ some k_ ≠ (v160 : Value).ownBlock ∧ some k_ ≠ (v163 : Value).ownBlock ∧ k_ ≠ gb138 ∧ k_ ≠ gb139 ∧ k_ ≠ gb140) v170 t169) ∧ Aside0 (Kd.V (Kd.slice 3 (Kd.int .i64)) 43 wc w.heap.size (fun k_ => ((P0_1_ k_ ∨ P1_1_ k_ ∨ P2_1_ k_) ∨ w.heap.size ≤ k_) ∧ some k_ ≠ (v147 : Value).ownBlock ∧ some k_ ≠ (v150 : Value).ownBlock ∧ some k_ ≠ (v160 : Value).ownBlock ∧ some k_ ≠ (v163 : Value).ownBlock ∧ some k_ ≠ (v170 : Value).ownBlock ∧ k_ ≠ gb138 ∧ k_ ≠ gb139 ∧ k_ ≠ gb140) (.slice A0_1 l0_1.length c0_1) l0_1) ∧ Aside0 (Kd.V (Kd.slice 3 (Kd.int .i64)) 43 wc w.heap.size (fun k_ => ((P0_1_ k_ ∨ P1_1_ k_ ∨ P2_1_ k_) ∨ w.heap.size ≤ k_) ∧ some k_ ≠ (v147 : Value).ownBlock ∧ some k_ ≠ (v150 : Value).ownBlock ∧ some k_ ≠ (v160 : Value).ownBlock ∧ some k_ ≠ (v163 : Value).ownBlock ∧ some k_ ≠ (v170 : Value).ownBlock ∧ k_ ≠ gb138 ∧ k_ ≠ gb139 ∧ k_ ≠ gb140) (.slice A1_1 l1_1.length c1_1) l1_1) ∧ Aside0 (Kd.V (Kd.slice 3 (Kd.int .i64)) 43 wc w.heap.size (fun k_ => ((P0_1_ k_ ∨ P1_1_ k_ ∨ P2_1_ k_) ∨ w.heap.size ≤ k_) ∧ some k_ ≠ (v147 : Value).ownBlock ∧ some k_ ≠ (v150 : Value).ownBlock ∧ some k_ ≠ (v160 : Value).ownBlock ∧ some k_ ≠ (v163 : Value).ownBlock ∧ some k_ ≠ (v170 : Value).ownBlock ∧ k_ ≠ gb138 ∧ k_ ≠ gb139 ∧ k_ ≠ gb140) (.slice A2_1 l2_1.length c2_1) l2_1) ∧ Aside0 (wc.heap[gb138]? = some (.cells #[.int .i64 a0_0, (.slice A0_1 l0_1.length c0_1)] 24 (0, 0))) ∧ Aside0 (wc.heap[gb139]? = some (.cells #[.int .i64 a1_0, (.slice A1_1 l1_1.length c1_1)] 24 (0, 0))) ∧ Aside0 (wc.heap[gb140]? = some (.cells #[.int .i64 a2_0, (.slice A2_1 l2_1.length c2_1)] 24 (0, 0))) ∧ Aside0 (Below w.heap.size w wc))
              case first =>
               have H := HC134.out
               clear HC134
               by_cases c135 : (t159.length : Int) > 120
               ·rw [if_pos c135] at H
                have c135b0 : decide (120 < (t159.length : Int)) = true := decide_eq_true c135
                have c135b1 : decide (120 < t159.length) = true := decide_eq_true (by omega)
                clear c135
                (first|rw [c135b0] | (simp only [i64_w, i32_w];rw [c135b0]) | skip)
                have H' := Aside0.mk H
                clear H
                obtain ⟨Ao136, co136, eo136⟩ := Kd.N_slice HO_13.out
                subst eo136
                as_aux_lemma =>
                 go_wp2
                 go_meet
                 case rel => exact ⟨_, (true), (by first | rfl | (simp;done) | (simp [*];done)), H', ⟨by have := HJ3.out;have := HK2.out;have := HJ91.out;have := HJ114.out;first | omega | exact Nat.le_refl _⟩, ⟨Nst HO_7.out⟩, ⟨Rst HO_8.out⟩, ⟨Nst HO_13.out⟩, ⟨Nst HO_14.out⟩, ⟨Nst HO_17.out⟩, ⟨Vst HO_139001.out⟩, ⟨Vst HO_140001.out⟩, ⟨Vst HO_141001.out⟩, ⟨blkst BK138.out⟩, ⟨blkst BK139.out⟩, ⟨blkst BK140.out⟩, ⟨bel HB.out⟩⟩
               ·rw [if_neg c135] at H
                have c135b0 : decide (120 < (t159.length : Int)) = false := decide_eq_false c135
                have c135b1 : decide (120 < t159.length) = false := decide_eq_false (by omega)
                clear c135
                (first|rw [c135b0] | (simp only [i64_w, i32_w];rw [c135b0]) | skip)
                by_cases c137 : (t162.length : Int) > 24
                ·rw [if_pos c137] at H
                 have c137b0 : decide (24 < (t162.length : Int)) = true := decide_eq_true c137
                 have c137b1 : decide (24 < t162.length) = true := decide_eq_true (by omega)
                 clear c137
                 have H' := Aside0.mk H
                 clear H
                 obtain ⟨Ao138, co138, eo138⟩ := Kd.N_slice HO_13.out
                 subst eo138
                 obtain ⟨Ao139, co139, eo139⟩ := Kd.N_slice HO_14.out
                 subst eo139
                 as_aux_lemma =>
                  go_wp2
                  go_meet
                  case rel => exact ⟨_, (true), (by first | rfl | (simp;done) | (simp [*];done)), H', ⟨by have := HJ3.out;have := HK2.out;have := HJ91.out;have := HJ114.out;first | omega | exact Nat.le_refl _⟩, ⟨Nst HO_7.out⟩, ⟨Rst HO_8.out⟩, ⟨Nst HO_13.out⟩, ⟨Nst HO_14.out⟩, ⟨Nst HO_17.out⟩, ⟨Vst HO_139001.out⟩, ⟨Vst HO_140001.out⟩, ⟨Vst HO_141001.out⟩, ⟨blkst BK138.out⟩, ⟨blkst BK139.out⟩, ⟨blkst BK140.out⟩, ⟨bel HB.out⟩⟩
                ·rw [if_neg c137] at H
                 have c137b0 : decide (24 < (t162.length : Int)) = false := decide_eq_false c137
                 have c137b1 : decide (24 < t162.length) = false := decide_eq_false (by omega)
                 clear c137
                 have H' := Aside0.mk H
                 clear H
                 obtain ⟨Ao140, co140, eo140⟩ := Kd.N_slice HO_13.out
                 subst eo140
                 obtain ⟨Ao141, co141, eo141⟩ := Kd.N_slice HO_14.out
                 subst eo141
                 obtain ⟨Ao142, co142, eo142⟩ := Kd.N_slice HO_17.out
                 subst eo142
                 as_aux_lemma =>
                  go_wp2
                  go_meet
                  case rel => exact ⟨_, (decide ((t169.length : Int) > 24)), (by first | rfl | (simp;done) | (simp [*];done)), H', ⟨by have := HJ3.out;have := HK2.out;have := HJ91.out;have := HJ114.out;first | omega | exact Nat.le_refl _⟩, ⟨Nst HO_7.out⟩, ⟨Rst HO_8.out⟩, ⟨Nst HO_13.out⟩, ⟨Nst HO_14.out⟩, ⟨Nst HO_17.out⟩, ⟨Vst HO_139001.out⟩, ⟨Vst HO_140001.out⟩, ⟨Vst HO_141001.out⟩, ⟨blkst BK138.out⟩, ⟨blkst BK139.out⟩, ⟨blkst BK140.out⟩, ⟨bel HB.out⟩⟩
              case rest =>
               clear HC134
               try clear c1
               try clear p1
               try clear q1
               try clear hx1
               try clear c2
               try clear p2
               try clear c3
               try clear c4
               try clear c5
               try clear c6
               try clear p6
               try clear c7
               try clear c8
               try clear c9
               try clear c10
               try clear c11
               try clear c12
               try clear c13
               try clear c14
               try clear c15
               try clear p15
               try clear q15
               try clear hx15
               try clear c18
               try clear c20
               try clear c21
               try clear c24
               try clear c29
               try clear c30
               try clear c33
               try clear c39
               try clear c43
               try clear c44
               try clear c46
               try clear c56
               try clear c56b0
               try clear c57
               try clear c57b0
               try clear c58
               try clear c58b0
               try clear c60
               try clear c60b0
               try clear c60b1
               try clear c62
               try clear c63
               try clear c64
               try clear p64
               try clear c67
               try clear c67b0
               try clear c67b1
               try clear c67b2
               try clear c68
               try clear c68b0
               try clear c68b1
               try clear c68b2
               try clear c70
               try clear c71
               try clear c72
               try clear c78
               try clear c79
               try clear c80
               try clear c86
               try clear c87
               try clear c88
               try clear c93
               try clear c93b0
               try clear c93b1
               try clear c94
               try clear c95
               try clear c97
               try clear c100
               try clear c101
               try clear c103
               try clear c105
               try clear c106
               try clear c106b0
               try clear c106b1
               try clear c106b2
               try clear c107
               try clear c107b0
               try clear c107b1
               try clear c107b2
               try clear c116
               try clear c117
               try clear c119
               try clear c125
               try clear c125b0
               try clear c125b1
               try clear c126
               try clear c127
               try clear c127b0
               try clear c127b1
               try clear c127b2
               try clear c128
               try clear c128b0
               try clear c128b1
               try clear c128b2
               try clear c135
               try clear c135b0
               try clear c135b1
               try clear c137
               try clear c137b0
               try clear c137b1
               try clear hcz102_0
               try clear hcz102_1
               try clear hcz104_0
               try clear hcz104_1
               try clear hcz118_0
               try clear hcz118_1
               try clear hcz120_0
               try clear hcz120_1
               try clear hcz122_0
               try clear hcz122_1
               try clear hcz123_0
               try clear hcz123_1
               try clear hcz15_0
               try clear hcz15_1
               try clear hcz22_0
               try clear hcz22_1
               try clear hcz25_0
               try clear hcz25_1
               try clear hcz31_0
               try clear hcz31_1
               try clear hcz34_0
               try clear hcz34_1
               try clear hcz36_0
               try clear hcz36_1
               try clear hcz45_0
               try clear hcz45_1
               try clear hcz47_0
               try clear hcz47_1
               try clear hcz48_0
               try clear hcz48_1
               try clear hcz50_0
               try clear hcz50_1
               try clear hcz51_0
               try clear hcz51_1
               try clear hcz52_0
               try clear hcz52_1
               try clear hcz65_0
               try clear hcz65_1
               try clear hcz73_0
               try clear hcz73_1
               try clear hcz81_0
               try clear hcz81_1
               try clear hcz89_0
               try clear hcz89_1
               try clear hcz96_0
               try clear hcz96_1
               try clear hcz98_0
               try clear hcz98_1
               try clear hcz99_0
               try clear hcz99_1
               try clear hfz102_0
               try clear hfz102_1
               try clear hfz104_0
               try clear hfz104_1
               try clear hfz118_0
               try clear hfz118_1
               try clear hfz120_0
               try clear hfz120_1
               try clear hfz122_0
               try clear hfz122_1
               try clear hfz123_0
               try clear hfz123_1
               try clear hfz15_0
               try clear hfz15_1
               try clear hfz22_0
               try clear hfz22_1
               try clear hfz25_0
               try clear hfz25_1
               try clear hfz31_0
               try clear hfz31_1
               try clear hfz34_0
               try clear hfz34_1
               try clear hfz36_0
               try clear hfz36_1
               try clear hfz45_0
               try clear hfz45_1
               try clear hfz47_0
               try clear hfz47_1
               try clear hfz48_0
               try clear hfz48_1
               try clear hfz50_0
               try clear hfz50_1
               try clear hfz51_0
               try clear hfz51_1
               try clear hfz52_0
               try clear hfz52_1
               try clear hfz65_0
               try clear hfz65_1
               try clear hfz73_0
               try clear hfz73_1
               try clear hfz81_0
               try clear hfz81_1
               try clear hfz89_0
               try clear hfz89_1
               try clear hfz96_0
               try clear hfz96_1
               try clear hfz98_0
               try clear hfz98_1
               try clear hfz99_0
               try clear hfz99_1
               try clear hx156_0
               try clear hx156_1
               try clear p1
               try clear p15
               try clear p156
               try clear p2
               try clear p6
               try clear p64
               try clear q1
               try clear q15
               try clear q156
               obtain ⟨kq, x139_133, rfl, HA, HJ133, HO_7, HO_8, HO_13, HO_14, HO_17, HO_139001, HO_140001, HO_141001, BK138, BK139, BK140, HB⟩ := hcut
               cases kq with
               | zero => exact absurd HA.out (by simp [galoislaw27_CosetDoubles.j4])
               | succ kj133 =>
                have H := HA.out
                clear HA
                simp only [galoislaw27_CosetDoubles.j4] at H
                by_cases c143 : x139_133 = true
                ·subst c143
                 have H1 : (some (t152 == 0)) = some r := by rw [if_pos rfl] at H;exact H
                 clear H
                 have H := H1
                 clear H1
                 obtain rfl := Option.some.inj H
                 as_aux_lemma =>
                  go_wp2
                  go_ret
                  exact ⟨by first | rfl | (simp [errW_none, errW_some] <;> rfl) | (simp [*, errW_none, errW_some] <;> rfl), bel HB.out⟩
                ·replace c143 := Bool.eq_false_iff.mpr c143
                 subst c143
                 have H1 : ((galoisref27_DoubleCosets.f kj133 t159 t162 t169).bind fun bt173 => (if t152 = 0 then ((galoisref22_SamePerms.f kj133 t146 bt173.1).bind fun t179 => (if t179 = true then ((galoisref22_Same.f kj133 t149 bt173.2).bind fun t180 => (some t180)) else (some false))) else (some false))) = some r := by rw [if_neg (show ¬ (false = true) by decide)] at H;exact H
                 clear H
                 have H := H1
                 clear H1
                 replace H := Option.bind_eq_some_iff.mp H
                 obtain ⟨⟨t173, t176⟩, A1440, H⟩ := H
                 replace H : (if t152 = 0 then ((galoisref22_SamePerms.f kj133 t146 t173).bind fun t179 => (if t179 = true then ((galoisref22_Same.f kj133 t149 t176).bind fun t180 => (some t180)) else (some false))) else (some false)) = some r := H
                 have A144 := Aside0.mk A1440
                 clear A1440
                 by_cases c145 : t152 = 0
                 ·rw [if_pos c145] at H
                  have c145b0 : (t152 == 0) = true := beq_iff_eq.mpr c145
                  have c145b1 : (t152 != 0) = false := bne_eq_false_iff_eq.mpr c145
                  clear c145
                  replace H := Option.bind_eq_some_iff.mp H
                  obtain ⟨t179, A1460, H⟩ := H
                  replace H : (if t179 = true then ((galoisref22_Same.f kj133 t149 t176).bind fun t180 => (some t180)) else (some false)) = some r := H
                  have A146 := Aside0.mk A1460
                  clear A1460
                  by_cases c147 : t179 = true
                  ·subst c147
                   have H1 : ((galoisref22_Same.f kj133 t149 t176).bind fun t180 => (some t180)) = some r := by rw [if_pos rfl] at H;exact H
                   clear H
                   have H := H1
                   clear H1
                   replace H := Option.bind_eq_some_iff.mp H
                   obtain ⟨t180, A1480, H⟩ := H
                   replace H : (some t180) = some r := H
                   have A148 := Aside0.mk A1480
                   clear A1480
                   obtain rfl := Option.some.inj H
                   obtain ⟨Ao149, co149, eo149⟩ := Kd.N_slice HO_13.out
                   subst eo149
                   obtain ⟨Ao150, co150, eo150⟩ := Kd.N_slice HO_14.out
                   subst eo150
                   obtain ⟨Ao151, co151, eo151⟩ := Kd.N_slice HO_17.out
                   subst eo151
                   as_aux_lemma =>
                    go_wp2_with (first|((with_reducible refine gate_callee (f := 31) rfl ?_);refine goesL_ (some 146) rfl rfl Try.func31 (by kernel_rfl) rfl #[.slice Ao149 t159.length co149, .slice Ao150 t162.length co150, .slice Ao151 t169.length co151] rfl (by (try simp only [List.map_toArray, List.map_cons, List.map_nil]);first | done | rfl | (simp only [List.length_drop, List.length_take];rfl)) ?_;(with_reducible refine (galoisref27_DoubleCosets.calls kj133 (fun k_ => (((P0_1_ k_ ∨ P1_1_ k_ ∨ P2_1_ k_) ∨ w.heap.size ≤ k_) ∧ (some k_ ≠ (v147 : Value).ownBlock ∧ (some k_ ≠ (v150 : Value).ownBlock ∧ (some k_ ≠ (.slice Ao150 t162.length co150 : Value).ownBlock ∧ (some k_ ≠ (.slice Ao151 t169.length co151 : Value).ownBlock ∧ (k_ ≠ gb138 ∧ (k_ ≠ gb139 ∧ k_ ≠ gb140)))))))) _ _ t159 _ _ t162 _ _ t169 t173 t176 _ ?side1 ?side2 ?side3 ?side4 ?side5 A144.out).mono ?_);(case side1 => exact Kd.N_V (HO_13.out));(case side2 => repeat (first|exact (Kd.N_reads' HO_14.out).2.2 | (with_reducible refine Kd.C_alloc ?_ _) | (with_reducible refine Kd.C_drewN ?_ _) | (with_reducible refine Kd.C_drew ?_)));(case side3 => exact (Kd.N_reads' HO_14.out).2.1);(case side4 => repeat (first|exact (Kd.N_reads' HO_17.out).2.2 | (with_reducible refine Kd.C_alloc ?_ _) | (with_reducible refine Kd.C_drewN ?_ _) | (with_reducible refine Kd.C_drew ?_)));(case side5 => exact (Kd.N_reads' HO_17.out).2.1);rintro e w152 ⟨v174, v177, rfl, ho0, ho1, hb⟩;refine ⟨_, rfl, ?_⟩;have n0_ := Aside0.mk (Kd.N_mono (Kd.N_told (Kd.N_told (Kd.N_old (Nst HO_7.out) hb) (by first | exact Kd.N_base ho0 | exact Kd.S_base ho0 | exact Kd.R_base ho0)) (Kd.R_base ho1)) (fun _ h_ => h_.1));have n1_ := Aside0.mk (Kd.R_elder' (Rst HO_8.out) (Kd.R_base ho1) hb);have n2_ := Aside0.mk (Kd.N_mono (Kd.N_told (Kd.N_told (Kd.N_old (Nst HO_13.out) hb) (by first | exact Kd.N_base ho0 | exact Kd.S_base ho0 | exact Kd.R_base ho0)) (Kd.R_base ho1)) (fun _ h_ => h_.1));have n3_ := Aside0.mk (Kd.N_mono (Kd.N_told (Kd.N_told (Kd.N_old (Nst HO_14.out) hb) (by first | exact Kd.N_base ho0 | exact Kd.S_base ho0 | exact Kd.R_base ho0)) (Kd.R_base ho1)) (fun _ h_ => h_.1));have n4_ := Aside0.mk (Kd.N_mono (Kd.N_told (Kd.N_told (Kd.N_old (Nst HO_17.out) hb) (by first | exact Kd.N_base ho0 | exact Kd.S_base ho0 | exact Kd.R_base ho0)) (Kd.R_base ho1)) (fun _ h_ => h_.1));have n5_ := Aside0.mk (Kd.V_mono (Kd.V_told (Kd.V_told (Kd.V_old (Vst HO_139001.out) hb) (by first | exact Kd.N_base ho0 | exact Kd.S_base ho0 | exact Kd.R_base ho0)) (Kd.R_base ho1)) (fun _ h_ => h_.1));have n6_ := Aside0.mk (Kd.V_mono (Kd.V_told (Kd.V_told (Kd.V_old (Vst HO_140001.out) hb) (by first | exact Kd.N_base ho0 | exact Kd.S_base ho0 | exact Kd.R_base ho0)) (Kd.R_base ho1)) (fun _ h_ => h_.1));have n7_ := Aside0.mk (Kd.V_mono (Kd.V_told (Kd.V_told (Kd.V_old (Vst HO_141001.out) hb) (by first | exact Kd.N_base ho0 | exact Kd.S_base ho0 | exact Kd.R_base ho0)) (Kd.R_base ho1)) (fun _ h_ => h_.1));have n8_ := Aside0.mk (Kd.N_lower (Kd.N_mono (ok' := fun k_ => ((P0_1_ k_ ∨ P1_1_ k_ ∨ P2_1_ k_) ∨ w.heap.size ≤ k_) ∧ some k_ ≠ (v177 : Value).ownBlock ∧ some k_ ≠ (v147 : Value).ownBlock ∧ some k_ ≠ (v150 : Value).ownBlock ∧ some k_ ≠ (.slice Ao150 t162.length co150 : Value).ownBlock ∧ some k_ ≠ (.slice Ao151 t169.length co151 : Value).ownBlock ∧ k_ ≠ gb138 ∧ k_ ≠ gb139 ∧ k_ ≠ gb140) ho0 (fun k_ hk_ => ⟨Or.elim hk_.1 (fun hs_ => hs_.1) (fun hn_ => (.inr (Nat.le_trans (below_size (bel HB.out)) hn_))), hk_.2, Or.elim hk_.1 (fun hs_ => hs_.2.1) (fun hn_ => (Kd.fresh' (Kd.N_lt (Nst HO_7.out)) k_ hn_)), Or.elim hk_.1 (fun hs_ => hs_.2.2.1) (fun hn_ => (Kd.fresh' (Kd.R_lt (Rst HO_8.out)) k_ hn_)), Or.elim hk_.1 (fun hs_ => hs_.2.2.2.1) (fun hn_ => (Kd.fresh' (Kd.N_lt (Nst HO_14.out)) k_ hn_)), Or.elim hk_.1 (fun hs_ => hs_.2.2.2.2.1) (fun hn_ => (Kd.fresh' (Kd.N_lt (Nst HO_17.out)) k_ hn_)), Or.elim hk_.1 (fun hs_ => hs_.2.2.2.2.2.1) (fun hn_ => (Kd.freshB (g := gb138) (o := .cells #[.int .i64 a0_0, .slice A0_1 l0_1.length c0_1] 24 (0, 0)) (blkst BK138.out) k_ hn_)), Or.elim hk_.1 (fun hs_ => hs_.2.2.2.2.2.2.1) (fun hn_ => (Kd.freshB (g := gb139) (o := .cells #[.int .i64 a1_0, .slice A1_1 l1_1.length c1_1] 24 (0, 0)) (blkst BK139.out) k_ hn_)), Or.elim hk_.1 (fun hs_ => hs_.2.2.2.2.2.2.2) (fun hn_ => (Kd.freshB (g := gb140) (o := .cells #[.int .i64 a2_0, .slice A2_1 l2_1.length c2_1] 24 (0, 0)) (blkst BK140.out) k_ hn_))⟩)) (below_size (bel HB.out)));have n9_ := Aside0.mk (Kd.R_lower (Kd.R_new' (Kd.R_newM (M := fun k_ => (w.heap.size ≤ k_)) (Kd.R_mono (ok' := fun k_ => True) ho1 (fun _ hk_ => trivial)) (below_size (bel HB.out)) (fun k_ h_ => h_)) (Kd.R_lt (Rst HO_8.out))) (below_size (bel HB.out)));have n10_ := Aside0.mk (blk_below (blkst BK138.out) hb);have n11_ := Aside0.mk (blk_below (blkst BK139.out) hb);have n12_ := Aside0.mk (blk_below (blkst BK140.out) hb);have n13_ := Aside0.mk (below_step (bel HB.out) hb);clear HO_7;clear HO_8;clear HO_13;clear HO_14;clear HO_17;clear HO_139001;clear HO_140001;clear HO_141001;clear BK138;clear BK139;clear BK140;clear HB;have HO_7 := n0_;have HO_8 := n1_;have HO_13 := n2_;have HO_14 := n3_;have HO_17 := n4_;have HO_139001 := n5_;have HO_140001 := n6_;have HO_141001 := n7_;have HO175 := n8_;have HO178 := n9_;have BK138 := n10_;have BK139 := n11_;have BK140 := n12_;have HB := n13_;clear n0_ n1_ n2_ n3_ n4_ n5_ n6_ n7_ n8_ n9_ n10_ n11_ n12_ n13_;(try clear hb);(try clear hb2);(try clear hk);(try clear hi);(try clear ho0);(try clear ho1);obtain ⟨Ao153, co153, eo153⟩ := Kd.N_slice HO_7.out;subst eo153;obtain ⟨Ao154, co154, eo154⟩ := Kd.N_slice HO175.out;subst eo154) | (go_at_call 27;(with_reducible refine (galoisref22_SamePerms.calls kj133 _ _ t146 _ _ t173 true _ ?side1 ?side2 ?side3 ?side4 A146.out).mono ?_);(case side1 => repeat (first|exact (Kd.N_reads' HO_7.out).2.2 | (with_reducible refine Kd.C_alloc ?_ _) | (with_reducible refine Kd.C_drewN ?_ _) | (with_reducible refine Kd.C_drew ?_)));(case side2 => exact (Kd.N_reads' HO_7.out).2.1);(case side3 => repeat (first|exact (Kd.N_reads' HO175.out).2.2 | (with_reducible refine Kd.C_alloc ?_ _) | (with_reducible refine Kd.C_drewN ?_ _) | (with_reducible refine Kd.C_drew ?_)));(case side4 => exact (Kd.N_reads' HO175.out).2.1);rintro e w' ⟨rfl, ⟨nd, rfl⟩⟩;obtain ⟨Ao155, co155, eo155⟩ := Kd.R_slice HO_8.out;subst eo155;obtain ⟨Ao156, co156, eo156⟩ := Kd.R_slice HO178.out;subst eo156) | (go_at_call 32;(with_reducible refine (galoisref22_Same.calls kj133 _ _ t149 _ _ t176 t180 _ ?side1 ?side2 ?side3 ?side4 A148.out).mono ?_);(case side1 => repeat (first|exact (Kd.R_reads' HO_8.out).2.2 | (with_reducible refine Kd.C_alloc ?_ _) | (with_reducible refine Kd.C_drewN ?_ _) | (with_reducible refine Kd.C_drew ?_)));(case side2 => exact (Kd.R_reads' HO_8.out).2.1);(case side3 => repeat (first|exact (Kd.R_reads' HO178.out).2.2 | (with_reducible refine Kd.C_alloc ?_ _) | (with_reducible refine Kd.C_drewN ?_ _) | (with_reducible refine Kd.C_drew ?_)));(case side4 => exact (Kd.R_reads' HO178.out).2.1);rintro e w' ⟨rfl, ⟨nd, rfl⟩⟩))
                    go_ret
                    exact ⟨by first | rfl | (simp [errW_none, errW_some] <;> rfl) | (simp [*, errW_none, errW_some] <;> rfl), bel HB.out⟩
                  ·replace c147 := Bool.eq_false_iff.mpr c147
                   subst c147
                   have H1 : (some false) = some r := by rw [if_neg (show ¬ (false = true) by decide)] at H;exact H
                   clear H
                   have H := H1
                   clear H1
                   obtain rfl := Option.some.inj H
                   obtain ⟨Ao157, co157, eo157⟩ := Kd.N_slice HO_13.out
                   subst eo157
                   obtain ⟨Ao158, co158, eo158⟩ := Kd.N_slice HO_14.out
                   subst eo158
                   obtain ⟨Ao159, co159, eo159⟩ := Kd.N_slice HO_17.out
                   subst eo159
                   as_aux_lemma =>
                    go_wp2_with (first|((with_reducible refine gate_callee (f := 31) rfl ?_);refine goesL_ (some 146) rfl rfl Try.func31 (by kernel_rfl) rfl #[.slice Ao157 t159.length co157, .slice Ao158 t162.length co158, .slice Ao159 t169.length co159] rfl (by (try simp only [List.map_toArray, List.map_cons, List.map_nil]);first | done | rfl | (simp only [List.length_drop, List.length_take];rfl)) ?_;(with_reducible refine (galoisref27_DoubleCosets.calls kj133 (fun k_ => (((P0_1_ k_ ∨ P1_1_ k_ ∨ P2_1_ k_) ∨ w.heap.size ≤ k_) ∧ (some k_ ≠ (v147 : Value).ownBlock ∧ (some k_ ≠ (v150 : Value).ownBlock ∧ (some k_ ≠ (.slice Ao158 t162.length co158 : Value).ownBlock ∧ (some k_ ≠ (.slice Ao159 t169.length co159 : Value).ownBlock ∧ (k_ ≠ gb138 ∧ (k_ ≠ gb139 ∧ k_ ≠ gb140)))))))) _ _ t159 _ _ t162 _ _ t169 t173 t176 _ ?side1 ?side2 ?side3 ?side4 ?side5 A144.out).mono ?_);(case side1 => exact Kd.N_V (HO_13.out));(case side2 => repeat (first|exact (Kd.N_reads' HO_14.out).2.2 | (with_reducible refine Kd.C_alloc ?_ _) | (with_reducible refine Kd.C_drewN ?_ _) | (with_reducible refine Kd.C_drew ?_)));(case side3 => exact (Kd.N_reads' HO_14.out).2.1);(case side4 => repeat (first|exact (Kd.N_reads' HO_17.out).2.2 | (with_reducible refine Kd.C_alloc ?_ _) | (with_reducible refine Kd.C_drewN ?_ _) | (with_reducible refine Kd.C_drew ?_)));(case side5 => exact (Kd.N_reads' HO_17.out).2.1);rintro e w160 ⟨v174, v177, rfl, ho0, ho1, hb⟩;refine ⟨_, rfl, ?_⟩;have n0_ := Aside0.mk (Kd.N_mono (Kd.N_told (Kd.N_told (Kd.N_old (Nst HO_7.out) hb) (by first | exact Kd.N_base ho0 | exact Kd.S_base ho0 | exact Kd.R_base ho0)) (Kd.R_base ho1)) (fun _ h_ => h_.1));have n1_ := Aside0.mk (Kd.R_elder' (Rst HO_8.out) (Kd.R_base ho1) hb);have n2_ := Aside0.mk (Kd.N_mono (Kd.N_told (Kd.N_told (Kd.N_old (Nst HO_13.out) hb) (by first | exact Kd.N_base ho0 | exact Kd.S_base ho0 | exact Kd.R_base ho0)) (Kd.R_base ho1)) (fun _ h_ => h_.1));have n3_ := Aside0.mk (Kd.N_mono (Kd.N_told (Kd.N_told (Kd.N_old (Nst HO_14.out) hb) (by first | exact Kd.N_base ho0 | exact Kd.S_base ho0 | exact Kd.R_base ho0)) (Kd.R_base ho1)) (fun _ h_ => h_.1));have n4_ := Aside0.mk (Kd.N_mono (Kd.N_told (Kd.N_told (Kd.N_old (Nst HO_17.out) hb) (by first | exact Kd.N_base ho0 | exact Kd.S_base ho0 | exact Kd.R_base ho0)) (Kd.R_base ho1)) (fun _ h_ => h_.1));have n5_ := Aside0.mk (Kd.V_mono (Kd.V_told (Kd.V_told (Kd.V_old (Vst HO_139001.out) hb) (by first | exact Kd.N_base ho0 | exact Kd.S_base ho0 | exact Kd.R_base ho0)) (Kd.R_base ho1)) (fun _ h_ => h_.1));have n6_ := Aside0.mk (Kd.V_mono (Kd.V_told (Kd.V_told (Kd.V_old (Vst HO_140001.out) hb) (by first | exact Kd.N_base ho0 | exact Kd.S_base ho0 | exact Kd.R_base ho0)) (Kd.R_base ho1)) (fun _ h_ => h_.1));have n7_ := Aside0.mk (Kd.V_mono (Kd.V_told (Kd.V_told (Kd.V_old (Vst HO_141001.out) hb) (by first | exact Kd.N_base ho0 | exact Kd.S_base ho0 | exact Kd.R_base ho0)) (Kd.R_base ho1)) (fun _ h_ => h_.1));have n8_ := Aside0.mk (Kd.N_lower (Kd.N_mono (ok' := fun k_ => ((P0_1_ k_ ∨ P1_1_ k_ ∨ P2_1_ k_) ∨ w.heap.size ≤ k_) ∧ some k_ ≠ (v177 : Value).ownBlock ∧ some k_ ≠ (v147 : Value).ownBlock ∧ some k_ ≠ (v150 : Value).ownBlock ∧ some k_ ≠ (.slice Ao158 t162.length co158 : Value).ownBlock ∧ some k_ ≠ (.slice Ao159 t169.length co159 : Value).ownBlock ∧ k_ ≠ gb138 ∧ k_ ≠ gb139 ∧ k_ ≠ gb140) ho0 (fun k_ hk_ => ⟨Or.elim hk_.1 (fun hs_ => hs_.1) (fun hn_ => (.inr (Nat.le_trans (below_size (bel HB.out)) hn_))), hk_.2, Or.elim hk_.1 (fun hs_ => hs_.2.1) (fun hn_ => (Kd.fresh' (Kd.N_lt (Nst HO_7.out)) k_ hn_)), Or.elim hk_.1 (fun hs_ => hs_.2.2.1) (fun hn_ => (Kd.fresh' (Kd.R_lt (Rst HO_8.out)) k_ hn_)), Or.elim hk_.1 (fun hs_ => hs_.2.2.2.1) (fun hn_ => (Kd.fresh' (Kd.N_lt (Nst HO_14.out)) k_ hn_)), Or.elim hk_.1 (fun hs_ => hs_.2.2.2.2.1) (fun hn_ => (Kd.fresh' (Kd.N_lt (Nst HO_17.out)) k_ hn_)), Or.elim hk_.1 (fun hs_ => hs_.2.2.2.2.2.1) (fun hn_ => (Kd.freshB (g := gb138) (o := .cells #[.int .i64 a0_0, .slice A0_1 l0_1.length c0_1] 24 (0, 0)) (blkst BK138.out) k_ hn_)), Or.elim hk_.1 (fun hs_ => hs_.2.2.2.2.2.2.1) (fun hn_ => (Kd.freshB (g := gb139) (o := .cells #[.int .i64 a1_0, .slice A1_1 l1_1.length c1_1] 24 (0, 0)) (blkst BK139.out) k_ hn_)), Or.elim hk_.1 (fun hs_ => hs_.2.2.2.2.2.2.2) (fun hn_ => (Kd.freshB (g := gb140) (o := .cells #[.int .i64 a2_0, .slice A2_1 l2_1.length c2_1] 24 (0, 0)) (blkst BK140.out) k_ hn_))⟩)) (below_size (bel HB.out)));have n9_ := Aside0.mk (Kd.R_lower (Kd.R_new' (Kd.R_newM (M := fun k_ => (w.heap.size ≤ k_)) (Kd.R_mono (ok' := fun k_ => True) ho1 (fun _ hk_ => trivial)) (below_size (bel HB.out)) (fun k_ h_ => h_)) (Kd.R_lt (Rst HO_8.out))) (below_size (bel HB.out)));have n10_ := Aside0.mk (blk_below (blkst BK138.out) hb);have n11_ := Aside0.mk (blk_below (blkst BK139.out) hb);have n12_ := Aside0.mk (blk_below (blkst BK140.out) hb);have n13_ := Aside0.mk (below_step (bel HB.out) hb);clear HO_7;clear HO_8;clear HO_13;clear HO_14;clear HO_17;clear HO_139001;clear HO_140001;clear HO_141001;clear BK138;clear BK139;clear BK140;clear HB;have HO_7 := n0_;have HO_8 := n1_;have HO_13 := n2_;have HO_14 := n3_;have HO_17 := n4_;have HO_139001 := n5_;have HO_140001 := n6_;have HO_141001 := n7_;have HO175 := n8_;have HO178 := n9_;have BK138 := n10_;have BK139 := n11_;have BK140 := n12_;have HB := n13_;clear n0_ n1_ n2_ n3_ n4_ n5_ n6_ n7_ n8_ n9_ n10_ n11_ n12_ n13_;(try clear hb);(try clear hb2);(try clear hk);(try clear hi);(try clear ho0);(try clear ho1);obtain ⟨Ao161, co161, eo161⟩ := Kd.N_slice HO_7.out;subst eo161;obtain ⟨Ao162, co162, eo162⟩ := Kd.N_slice HO175.out;subst eo162) | (go_at_call 27;(with_reducible refine (galoisref22_SamePerms.calls kj133 _ _ t146 _ _ t173 false _ ?side1 ?side2 ?side3 ?side4 A146.out).mono ?_);(case side1 => repeat (first|exact (Kd.N_reads' HO_7.out).2.2 | (with_reducible refine Kd.C_alloc ?_ _) | (with_reducible refine Kd.C_drewN ?_ _) | (with_reducible refine Kd.C_drew ?_)));(case side2 => exact (Kd.N_reads' HO_7.out).2.1);(case side3 => repeat (first|exact (Kd.N_reads' HO175.out).2.2 | (with_reducible refine Kd.C_alloc ?_ _) | (with_reducible refine Kd.C_drewN ?_ _) | (with_reducible refine Kd.C_drew ?_)));(case side4 => exact (Kd.N_reads' HO175.out).2.1);rintro e w' ⟨rfl, ⟨nd, rfl⟩⟩))
                    go_ret
                    exact ⟨by first | rfl | (simp [errW_none, errW_some] <;> rfl) | (simp [*, errW_none, errW_some] <;> rfl), bel HB.out⟩
                 ·rw [if_neg c145] at H
                  have c145b0 : (t152 == 0) = false := beq_eq_false_iff_ne.mpr c145
                  have c145b1 : (t152 != 0) = true := bne_iff_ne.mpr c145
                  obtain rfl := Option.some.inj H
                  obtain ⟨Ao163, co163, eo163⟩ := Kd.N_slice HO_13.out
                  subst eo163
                  obtain ⟨Ao164, co164, eo164⟩ := Kd.N_slice HO_14.out
                  subst eo164
                  obtain ⟨Ao165, co165, eo165⟩ := Kd.N_slice HO_17.out
                  subst eo165
                  as_aux_lemma =>
                   go_wp2_with (first|((with_reducible refine gate_callee (f := 31) rfl ?_);refine goesL_ (some 146) rfl rfl Try.func31 (by kernel_rfl) rfl #[.slice Ao163 t159.length co163, .slice Ao164 t162.length co164, .slice Ao165 t169.length co165] rfl (by (try simp only [List.map_toArray, List.map_cons, List.map_nil]);first | done | rfl | (simp only [List.length_drop, List.length_take];rfl)) ?_;(with_reducible refine (galoisref27_DoubleCosets.calls kj133 (fun k_ => (((P0_1_ k_ ∨ P1_1_ k_ ∨ P2_1_ k_) ∨ w.heap.size ≤ k_) ∧ (some k_ ≠ (v147 : Value).ownBlock ∧ (some k_ ≠ (v150 : Value).ownBlock ∧ (some k_ ≠ (.slice Ao164 t162.length co164 : Value).ownBlock ∧ (some k_ ≠ (.slice Ao165 t169.length co165 : Value).ownBlock ∧ (k_ ≠ gb138 ∧ (k_ ≠ gb139 ∧ k_ ≠ gb140)))))))) _ _ t159 _ _ t162 _ _ t169 t173 t176 _ ?side1 ?side2 ?side3 ?side4 ?side5 A144.out).mono ?_);(case side1 => exact Kd.N_V (HO_13.out));(case side2 => repeat (first|exact (Kd.N_reads' HO_14.out).2.2 | (with_reducible refine Kd.C_alloc ?_ _) | (with_reducible refine Kd.C_drewN ?_ _) | (with_reducible refine Kd.C_drew ?_)));(case side3 => exact (Kd.N_reads' HO_14.out).2.1);(case side4 => repeat (first|exact (Kd.N_reads' HO_17.out).2.2 | (with_reducible refine Kd.C_alloc ?_ _) | (with_reducible refine Kd.C_drewN ?_ _) | (with_reducible refine Kd.C_drew ?_)));(case side5 => exact (Kd.N_reads' HO_17.out).2.1);rintro e w166 ⟨v174, v177, rfl, ho0, ho1, hb⟩;refine ⟨_, rfl, ?_⟩;have n0_ := Aside0.mk (Kd.N_mono (Kd.N_told (Kd.N_told (Kd.N_old (Nst HO_7.out) hb) (by first | exact Kd.N_base ho0 | exact Kd.S_base ho0 | exact Kd.R_base ho0)) (Kd.R_base ho1)) (fun _ h_ => h_.1));have n1_ := Aside0.mk (Kd.R_elder' (Rst HO_8.out) (Kd.R_base ho1) hb);have n2_ := Aside0.mk (Kd.N_mono (Kd.N_told (Kd.N_told (Kd.N_old (Nst HO_13.out) hb) (by first | exact Kd.N_base ho0 | exact Kd.S_base ho0 | exact Kd.R_base ho0)) (Kd.R_base ho1)) (fun _ h_ => h_.1));have n3_ := Aside0.mk (Kd.N_mono (Kd.N_told (Kd.N_told (Kd.N_old (Nst HO_14.out) hb) (by first | exact Kd.N_base ho0 | exact Kd.S_base ho0 | exact Kd.R_base ho0)) (Kd.R_base ho1)) (fun _ h_ => h_.1));have n4_ := Aside0.mk (Kd.N_mono (Kd.N_told (Kd.N_told (Kd.N_old (Nst HO_17.out) hb) (by first | exact Kd.N_base ho0 | exact Kd.S_base ho0 | exact Kd.R_base ho0)) (Kd.R_base ho1)) (fun _ h_ => h_.1));have n5_ := Aside0.mk (Kd.V_mono (Kd.V_told (Kd.V_told (Kd.V_old (Vst HO_139001.out) hb) (by first | exact Kd.N_base ho0 | exact Kd.S_base ho0 | exact Kd.R_base ho0)) (Kd.R_base ho1)) (fun _ h_ => h_.1));have n6_ := Aside0.mk (Kd.V_mono (Kd.V_told (Kd.V_told (Kd.V_old (Vst HO_140001.out) hb) (by first | exact Kd.N_base ho0 | exact Kd.S_base ho0 | exact Kd.R_base ho0)) (Kd.R_base ho1)) (fun _ h_ => h_.1));have n7_ := Aside0.mk (Kd.V_mono (Kd.V_told (Kd.V_told (Kd.V_old (Vst HO_141001.out) hb) (by first | exact Kd.N_base ho0 | exact Kd.S_base ho0 | exact Kd.R_base ho0)) (Kd.R_base ho1)) (fun _ h_ => h_.1));have n8_ := Aside0.mk (Kd.N_lower (Kd.N_mono (ok' := fun k_ => ((P0_1_ k_ ∨ P1_1_ k_ ∨ P2_1_ k_) ∨ w.heap.size ≤ k_) ∧ some k_ ≠ (v177 : Value).ownBlock ∧ some k_ ≠ (v147 : Value).ownBlock ∧ some k_ ≠ (v150 : Value).ownBlock ∧ some k_ ≠ (.slice Ao164 t162.length co164 : Value).ownBlock ∧ some k_ ≠ (.slice Ao165 t169.length co165 : Value).ownBlock ∧ k_ ≠ gb138 ∧ k_ ≠ gb139 ∧ k_ ≠ gb140) ho0 (fun k_ hk_ => ⟨Or.elim hk_.1 (fun hs_ => hs_.1) (fun hn_ => (.inr (Nat.le_trans (below_size (bel HB.out)) hn_))), hk_.2, Or.elim hk_.1 (fun hs_ => hs_.2.1) (fun hn_ => (Kd.fresh' (Kd.N_lt (Nst HO_7.out)) k_ hn_)), Or.elim hk_.1 (fun hs_ => hs_.2.2.1) (fun hn_ => (Kd.fresh' (Kd.R_lt (Rst HO_8.out)) k_ hn_)), Or.elim hk_.1 (fun hs_ => hs_.2.2.2.1) (fun hn_ => (Kd.fresh' (Kd.N_lt (Nst HO_14.out)) k_ hn_)), Or.elim hk_.1 (fun hs_ => hs_.2.2.2.2.1) (fun hn_ => (Kd.fresh' (Kd.N_lt (Nst HO_17.out)) k_ hn_)), Or.elim hk_.1 (fun hs_ => hs_.2.2.2.2.2.1) (fun hn_ => (Kd.freshB (g := gb138) (o := .cells #[.int .i64 a0_0, .slice A0_1 l0_1.length c0_1] 24 (0, 0)) (blkst BK138.out) k_ hn_)), Or.elim hk_.1 (fun hs_ => hs_.2.2.2.2.2.2.1) (fun hn_ => (Kd.freshB (g := gb139) (o := .cells #[.int .i64 a1_0, .slice A1_1 l1_1.length c1_1] 24 (0, 0)) (blkst BK139.out) k_ hn_)), Or.elim hk_.1 (fun hs_ => hs_.2.2.2.2.2.2.2) (fun hn_ => (Kd.freshB (g := gb140) (o := .cells #[.int .i64 a2_0, .slice A2_1 l2_1.length c2_1] 24 (0, 0)) (blkst BK140.out) k_ hn_))⟩)) (below_size (bel HB.out)));have n9_ := Aside0.mk (Kd.R_lower (Kd.R_new' (Kd.R_newM (M := fun k_ => (w.heap.size ≤ k_)) (Kd.R_mono (ok' := fun k_ => True) ho1 (fun _ hk_ => trivial)) (below_size (bel HB.out)) (fun k_ h_ => h_)) (Kd.R_lt (Rst HO_8.out))) (below_size (bel HB.out)));have n10_ := Aside0.mk (blk_below (blkst BK138.out) hb);have n11_ := Aside0.mk (blk_below (blkst BK139.out) hb);have n12_ := Aside0.mk (blk_below (blkst BK140.out) hb);have n13_ := Aside0.mk (below_step (bel HB.out) hb);clear HO_7;clear HO_8;clear HO_13;clear HO_14;clear HO_17;clear HO_139001;clear HO_140001;clear HO_141001;clear BK138;clear BK139;clear BK140;clear HB;have HO_7 := n0_;have HO_8 := n1_;have HO_13 := n2_;have HO_14 := n3_;have HO_17 := n4_;have HO_139001 := n5_;have HO_140001 := n6_;have HO_141001 := n7_;have HO175 := n8_;have HO178 := n9_;have BK138 := n10_;have BK139 := n11_;have BK140 := n12_;have HB := n13_;clear n0_ n1_ n2_ n3_ n4_ n5_ n6_ n7_ n8_ n9_ n10_ n11_ n12_ n13_;(try clear hb);(try clear hb2);(try clear hk);(try clear hi);(try clear ho0);(try clear ho1)))
                   go_ret
                   exact ⟨by first | rfl | (simp [errW_none, errW_some] <;> rfl) | (simp [*, errW_none, errW_some] <;> rfl), bel HB.out⟩
def galoislaw27_CosetDoubles.Pure : Prop := ∀ (a0_0 : Int) (l0_1 : List (List Int)) (a1_0 : Int) (l1_1 : List (List Int)) (a2_0 : Int) (l2_1 : List (List Int)), (Lit.int .i64 a0_0).wf = true → l0_1.length ≤ maxLen → (∀ x ∈ l0_1, (x.length ≤ maxLen ∧ ∀ y0 ∈ x, (Lit.int .i64 y0).wf = true)) → (Lit.int .i64 a1_0).wf = true → l1_1.length ≤ maxLen → (∀ x ∈ l1_1, (x.length ≤ maxLen ∧ ∀ y0 ∈ x, (Lit.int .i64 y0).wf = true)) → (Lit.int .i64 a2_0).wf = true → l2_1.length ≤ maxLen → (∀ x ∈ l2_1, (x.length ≤ maxLen ∧ ∀ y0 ∈ x, (Lit.int .i64 y0).wf = true)) → ∃ k, galoislaw27_CosetDoubles.f k a0_0 l0_1 a1_0 l1_1 a2_0 l2_1 = some true
theorem galoislaw27_CosetDoubles.walk (P : galoislaw27_CosetDoubles.Pure) (a0_0 : Int) (A0_1 : Option Addr) (c0_1 : Nat) (l0_1 : List (List Int)) (a1_0 : Int) (A1_1 : Option Addr) (c1_1 : Nat) (l1_1 : List (List Int)) (a2_0 : Int) (A2_1 : Option Addr) (c2_1 : Nat) (l2_1 : List (List Int)) (w : World) (w0_0 : (Lit.int .i64 a0_0).wf = true) (hr0_1 : Kd.C (Kd.slice 3 (Kd.int .i64)) w A0_1 l0_1.length l0_1) (hc0_1 : l0_1.length ≤ c0_1) (hm0_1 : l0_1.length ≤ maxLen) (hw0_1 : ∀ x ∈ l0_1, (x.length ≤ maxLen ∧ ∀ y0 ∈ x, (Lit.int .i64 y0).wf = true)) (w1_0 : (Lit.int .i64 a1_0).wf = true) (hr1_1 : Kd.C (Kd.slice 3 (Kd.int .i64)) w A1_1 l1_1.length l1_1) (hc1_1 : l1_1.length ≤ c1_1) (hm1_1 : l1_1.length ≤ maxLen) (hw1_1 : ∀ x ∈ l1_1, (x.length ≤ maxLen ∧ ∀ y0 ∈ x, (Lit.int .i64 y0).wf = true)) (w2_0 : (Lit.int .i64 a2_0).wf = true) (hr2_1 : Kd.C (Kd.slice 3 (Kd.int .i64)) w A2_1 l2_1.length l2_1) (hc2_1 : l2_1.length ≤ c2_1) (hm2_1 : l2_1.length ≤ maxLen) (hw2_1 : ∀ x ∈ l2_1, (x.length ≤ maxLen ∧ ∀ y0 ∈ x, (Lit.int .i64 y0).wf = true)) :
  Calls Try.prog 5 #[.agg #[.int .i64 a0_0, .slice A0_1 l0_1.length c0_1], .agg #[.int .i64 a1_0, .slice A1_1 l1_1.length c1_1], .agg #[.int .i64 a2_0, .slice A2_1 l2_1.length c2_1]] w fun e w' => e = .returned (.bool true) ∧ Below w.heap.size w w' := by
 obtain ⟨k, h⟩ := P a0_0 l0_1 a1_0 l1_1 a2_0 l2_1 w0_0 hm0_1 hw0_1 w1_0 hm1_1 hw1_1 w2_0 hm2_1 hw2_1
 refine (galoislaw27_CosetDoubles.calls k a0_0 (fun k_ => k_ < w.heap.size) _ _ l0_1 a1_0 (fun k_ => k_ < w.heap.size) _ _ l1_1 a2_0 (fun k_ => k_ < w.heap.size) _ _ l2_1 true w (Kd.V_mk hc0_1 (Kd.C_F (Kd.heap_slice 3 (Kd.heap_int .i64)) hr0_1)) (Kd.V_mk hc1_1 (Kd.C_F (Kd.heap_slice 3 (Kd.heap_int .i64)) hr1_1)) (Kd.V_mk hc2_1 (Kd.C_F (Kd.heap_slice 3 (Kd.heap_int .i64)) hr2_1)) h).mono ?_
 rintro e w' ⟨rfl, hd⟩
 exact ⟨rfl, hd⟩
end Go.Proofs.Ytaaaljifclecnaa.PDu
