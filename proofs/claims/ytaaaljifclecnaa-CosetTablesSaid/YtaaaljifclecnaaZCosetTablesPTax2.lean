-- Printed by wip/tools/mk.py of this repo (the kit's print with turns made in memory).
import Derived.Test.YtaaaljifclecnaaZCosetTablesMg0
import Derived.Test.YtaaaljifclecnaaZCosetTablesPTax0
import Derived.Test.YtaaaljifclecnaaZCosetTablesPTax1
namespace Go.Proofs.Ytaaaljifclecnaa.PTa
open Go.RowKit Go.Proofs.YtaaaljifclecnaaW.PrintWords Go.Proofs.YtaaaljifclecnaaW.PrintLast Go.Proofs.YtaaaljifclecnaaW.PrintMore
attribute [local go_sem] max2_int min2_int max_two min_two max_three min_three max_four min_four   -- for this text's walks alone
set_option linter.unusedVariables false
set_option linter.unusedSimpArgs false
mutual
def galoislaw27_CosetTables.j0 : Nat → Bool → Int → List (List Int) → Int → List (List Int) → Option (Bool)
 | 0, _, _, _, _, _ => none
 | k + 1, x24, x139000, x139001, x140000, x140001 => if x24 = true then ((galoislaw27_awake.f).bind fun t143 => (some t143)) else ((coset_Table.f k x139000 x139001).bind fun bt144 => ((coset_Quotient.f k x139000 x139001 x140000 x140001).bind fun bt148 => ((galoisref23_Check.f k x139000 x139001).bind fun t152 => (if t152 = 0 then ((galoisref23_Elements.f k x139000 x139001).bind fun bt153 => (if (bt153.1.length : Int) > 120 then (if (bt144.1.length : Int) > 0 then (some false) else (if bt144.2 = 4 then (galoislaw27_CosetTables.j1 k bt148.1 bt148.2 x139000 x139001 x140000 x140001) else (some false))) else (if bt144.2 = 0 then ((galoisref27_Table.f k bt153.1).bind fun t157 => ((galoisref22_SameLists.f k bt144.1 t157).bind fun t160 => (if t160 = true then (galoislaw27_CosetTables.j1 k bt148.1 bt148.2 x139000 x139001 x140000 x140001) else (some false)))) else (some false)))) else (if (bt144.1.length : Int) = 0 then (if bt144.2 = t152 then (if (bt148.1.length : Int) = 0 then (some (bt148.2 == t152)) else (some false)) else (some false)) else (some false))))))
def galoislaw27_CosetTables.j1 : Nat → List (List Int) → Int → Int → List (List Int) → Int → List (List Int) → Option (Bool)
 | 0, _, _, _, _, _, _ => none
 | k + 1, x7, x8, x139000, x139001, x140000, x140001 => (galoislaw27_groups.f k x139000 x139001 x140000 x140001).bind fun bt161 => (if bt161.2.2 = 0 then ((galoisref27_Core.f k bt161.1 bt161.2.1).bind fun t168 => (galoislaw27_CosetTables.j2 k x7 x8 bt161.1 bt161.2.1 bt161.2.2 (decide ((t168.length : Int) < (bt161.2.1.length : Int))))) else (galoislaw27_CosetTables.j2 k x7 x8 bt161.1 bt161.2.1 bt161.2.2 false))
def galoislaw27_CosetTables.j2 : Nat → List (List Int) → Int → List (List Int) → List (List Int) → Int → Bool → Option (Bool)
 | 0, _, _, _, _, _, _ => none
 | k + 1, x7, x8, x12, x13, x14, x100 => if x100 = true then (galoislaw27_CosetTables.j3 k x7 x8 x12 x13 29) else (galoislaw27_CosetTables.j3 k x7 x8 x12 x13 x14)
def galoislaw27_CosetTables.j3 : Nat → List (List Int) → Int → List (List Int) → List (List Int) → Int → Option (Bool)
 | 0, _, _, _, _, _ => none
 | k + 1, x7, x8, x12, x13, x14 => if x14 = 0 then (if (x13.length : Int) = 0 then (none) else (galoislaw27_CosetTables.j4 k x7 x8 x12 x13 x14 (decide ((wrap64 ((x12.length : Int) / (x13.length : Int))) > 120)))) else (galoislaw27_CosetTables.j4 k x7 x8 x12 x13 x14 false)
def galoislaw27_CosetTables.j4 : Nat → List (List Int) → Int → List (List Int) → List (List Int) → Int → Bool → Option (Bool)
 | 0, _, _, _, _, _, _ => none
 | k + 1, x7, x8, x12, x13, x14, x110 => if x110 = true then (galoislaw27_CosetTables.j5 k x7 x8 x12 x13 4) else (galoislaw27_CosetTables.j5 k x7 x8 x12 x13 x14)
def galoislaw27_CosetTables.j5 : Nat → List (List Int) → Int → List (List Int) → List (List Int) → Int → Option (Bool)
 | 0, _, _, _, _, _ => none
 | k + 1, x7, x8, x12, x13, x14 => if x14 = 0 then (if x8 = 0 then ((galoisref27_Quotient.f k x12 x13).bind fun t171 => ((galoisref22_SameLists.f k x7 t171).bind fun t174 => (some t174))) else (some false)) else (if (x7.length : Int) = 0 then (some (x8 == x14)) else (some false))
end
def galoislaw27_CosetTables.f (k : Nat) (a0_0 : Int) (l0_1 : List (List Int)) (a1_0 : Int) (l1_1 : List (List Int)) : Option (Bool) := (galoislaw27_awake.f).bind fun t140 => (if t140 = true then ((galoislaw27_large.f k a0_0 l0_1).bind fun t141 => (if t141 = true then (galoislaw27_CosetTables.j0 k true a0_0 l0_1 a1_0 l1_1) else ((galoislaw27_large.f k a1_0 l1_1).bind fun t142 => (galoislaw27_CosetTables.j0 k t142 a0_0 l0_1 a1_0 l1_1)))) else (galoislaw27_CosetTables.j0 k true a0_0 l0_1 a1_0 l1_1))
set_option maxHeartbeats 8000000 in
set_option maxRecDepth 100000 in
theorem galoislaw27_CosetTables.calls (k : Nat) (a0_0 : Int) (A0_1 : Option Addr) (c0_1 : Nat) (l0_1 : List (List Int)) (a1_0 : Int) (A1_1 : Option Addr) (c1_1 : Nat) (l1_1 : List (List Int)) (r : Bool) (w : World) (hr0_1 : Kd.C (Kd.slice 3 (Kd.int .i64)) w A0_1 l0_1.length l0_1) (hc0_1 : l0_1.length ≤ c0_1) (hr1_1 : Kd.C (Kd.slice 3 (Kd.int .i64)) w A1_1 l1_1.length l1_1) (hc1_1 : l1_1.length ≤ c1_1) (h : galoislaw27_CosetTables.f k a0_0 l0_1 a1_0 l1_1 = some r) :
  Calls Try.prog 3 #[.agg #[.int .i64 a0_0, .slice A0_1 l0_1.length c0_1], .agg #[.int .i64 a1_0, .slice A1_1 l1_1.length c1_1]] w fun e w' => e = .returned (.bool r) ∧ Below w.heap.size w w' := by
 have hu24 := Try.underlying24
 have HR0_1 := Aside0.mk hr0_1
 have HC0_1 := Aside0.mk hc0_1
 clear hr0_1 hc0_1
 have HR1_1 := Aside0.mk hr1_1
 have HC1_1 := Aside0.mk hc1_1
 clear hr1_1 hc1_1
 have HB := Aside0.mk (Below.refl w.heap.size w)
 have H : ((galoislaw27_awake.f).bind fun t140 => (if t140 = true then ((galoislaw27_large.f k a0_0 l0_1).bind fun t141 => (if t141 = true then (galoislaw27_CosetTables.j0 k true a0_0 l0_1 a1_0 l1_1) else ((galoislaw27_large.f k a1_0 l1_1).bind fun t142 => (galoislaw27_CosetTables.j0 k t142 a0_0 l0_1 a1_0 l1_1)))) else (galoislaw27_CosetTables.j0 k true a0_0 l0_1 a1_0 l1_1))) = some r := h
 clear h
 have HC3 := Aside0.mk H
 clear H
 go_enter Try.func3, Try.ntmps3
 go_upto_region 1 with (first|((with_reducible refine gate_dst (N := 2) rfl ?_);(try (refine gate_guard (by rfl) ?_;dsimp only));refine box_event ?hg (N := 2) ?hd (cs := #[.int .i64 a0_0, .slice A0_1 l0_1.length c0_1]) (t := 24) ?hr ?_;(case hd => rfl);(case hg => rfl);(case hr => first | (go_simp;done) | (go_simp;rfl));intro gb138 hg w4 hbox hb;have n0_ := Aside0.mk (below_step (bel HB.out) hb);have n1_ := Aside0.mk (hbox);have n2_ := Aside0.mk ((by rw [hg];exact (below_size (bel HB.out)) : w.heap.size ≤ gb138));have n3_ := Aside0.mk ((by rw [hg];exact (below_size (bel HB.out)) : w.heap.size ≤ gb138));clear HB;have HB := n0_;have BK138 := n1_;have GW138 := n2_;have GE138 := n3_;clear n0_ n1_ n2_ n3_;clear hb hbox hg) | ((with_reducible refine gate_dst (N := 3) rfl ?_);(try (refine gate_guard (by rfl) ?_;dsimp only));refine box_event ?hg (N := 3) ?hd (cs := #[.int .i64 a1_0, .slice A1_1 l1_1.length c1_1]) (t := 24) ?hr ?_;(case hd => rfl);(case hg => rfl);(case hr => first | (go_simp;done) | (go_simp;rfl));intro gb139 hg w5 hbox hb;have n0_ := Aside0.mk (blk_below (g := gb138) (o := .cells #[.int .i64 a0_0, .slice A0_1 l0_1.length c0_1] 24 (0, 0)) (blkst BK138.out) hb);have n1_ := Aside0.mk (below_step (bel HB.out) hb);have n2_ := Aside0.mk (hbox);have n3_ := Aside0.mk ((by rw [hg];exact (below_size (bel HB.out)) : w.heap.size ≤ gb139));have n4_ := Aside0.mk ((by rw [hg];exact (below_size (bel HB.out)) : w.heap.size ≤ gb139));have n5_ := Aside0.mk ((by rw [hg];exact Nat.ne_of_lt (blk_lt (g := gb138) (o := .cells #[.int .i64 a0_0, .slice A0_1 l0_1.length c0_1] 24 (0, 0)) (blkst BK138.out)) : gb138 ≠ gb139));have n6_ := Aside0.mk ((by rw [hg];exact Nat.ne_of_gt (blk_lt (g := gb138) (o := .cells #[.int .i64 a0_0, .slice A0_1 l0_1.length c0_1] 24 (0, 0)) (blkst BK138.out)) : gb139 ≠ gb138));clear BK138;clear HB;have BK138 := n0_;have HB := n1_;have BK139 := n2_;have GW139 := n3_;have GE139 := n4_;have NB138_139 := n5_;have NB139_138 := n6_;clear n0_ n1_ n2_ n3_ n4_ n5_ n6_;clear hb hbox hg))
 (try simp only [Act.put, List.setIfInBounds_toArray, List.set_cons_zero, List.set_cons_succ])
 go_cut [24] (fun v24 wc => ∃ (kq : Nat) (x24_2 : Bool), v24 = .bool x24_2 ∧ Aside0 (galoislaw27_CosetTables.j0 kq x24_2 a0_0 l0_1 a1_0 l1_1 = some r) ∧ Aside0 (kq ≤ k) ∧ Aside0 (wc.heap[gb138]? = some (.cells #[.int .i64 a0_0, (.slice A0_1 l0_1.length c0_1)] 24 (0, 0))) ∧ Aside0 (wc.heap[gb139]? = some (.cells #[.int .i64 a1_0, (.slice A1_1 l1_1.length c1_1)] 24 (0, 0))) ∧ Aside0 (Below w.heap.size w wc))
 case first =>
  have H := HC3.out
  clear HC3
  replace H := Option.bind_eq_some_iff.mp H
  obtain ⟨t140, A60, H⟩ := H
  replace H : (if t140 = true then ((galoislaw27_large.f k a0_0 l0_1).bind fun t141 => (if t141 = true then (galoislaw27_CosetTables.j0 k true a0_0 l0_1 a1_0 l1_1) else ((galoislaw27_large.f k a1_0 l1_1).bind fun t142 => (galoislaw27_CosetTables.j0 k t142 a0_0 l0_1 a1_0 l1_1)))) else (galoislaw27_CosetTables.j0 k true a0_0 l0_1 a1_0 l1_1)) = some r := H
  have A6 := Aside0.mk A60
  clear A60
  by_cases c7 : t140 = true
  ·subst c7
   have H1 : ((galoislaw27_large.f k a0_0 l0_1).bind fun t141 => (if t141 = true then (galoislaw27_CosetTables.j0 k true a0_0 l0_1 a1_0 l1_1) else ((galoislaw27_large.f k a1_0 l1_1).bind fun t142 => (galoislaw27_CosetTables.j0 k t142 a0_0 l0_1 a1_0 l1_1)))) = some r := by rw [if_pos rfl] at H;exact H
   clear H
   have H := H1
   clear H1
   replace H := Option.bind_eq_some_iff.mp H
   obtain ⟨t141, A80, H⟩ := H
   replace H : (if t141 = true then (galoislaw27_CosetTables.j0 k true a0_0 l0_1 a1_0 l1_1) else ((galoislaw27_large.f k a1_0 l1_1).bind fun t142 => (galoislaw27_CosetTables.j0 k t142 a0_0 l0_1 a1_0 l1_1))) = some r := H
   have A8 := Aside0.mk A80
   clear A80
   by_cases c9 : t141 = true
   ·subst c9
    have H1 : (galoislaw27_CosetTables.j0 k true a0_0 l0_1 a1_0 l1_1) = some r := by rw [if_pos rfl] at H;exact H
    clear H
    have H := H1
    clear H1
    have H' := Aside0.mk H
    clear H
    as_aux_lemma =>
     go_wp2_with (first|((with_reducible refine gate_callee (f := 10) rfl ?_);refine goesL_ (some 15) rfl rfl Try.func10 (by kernel_rfl) rfl #[] rfl (by (try simp only [List.map_toArray, List.map_cons, List.map_nil]);first | done | rfl | (simp only [List.length_drop, List.length_take];rfl)) ?_;(with_reducible refine (galoislaw27_awake.calls  true _ A6.out).mono ?_);rintro e w10 ⟨rfl, hb⟩;refine ⟨_, rfl, ?_⟩;have n0_ := Aside0.mk (blk_below (g := gb138) (o := .cells #[.int .i64 a0_0, .slice A0_1 l0_1.length c0_1] 24 (0, 0)) (blkst BK138.out) hb);have n1_ := Aside0.mk (blk_below (g := gb139) (o := .cells #[.int .i64 a1_0, .slice A1_1 l1_1.length c1_1] 24 (0, 0)) (blkst BK139.out) hb);have n2_ := Aside0.mk (below_step (bel HB.out) hb);clear BK138;clear BK139;clear HB;have BK138 := n0_;have BK139 := n1_;have HB := n2_;clear n0_ n1_ n2_;(try clear hb);(try clear hb2);(try clear hk);(try clear hi);have hnb11 := NB138_139.out;have hnc11 := NB139_138.out;have hcz12_0 : w10.cell? ⟨gb138, 0, none⟩ = some (.int .i64 a0_0) := (blk_cell BK138.out 0).trans rfl;have hcz12_1 : w10.cell? ⟨gb138, 1, none⟩ = some (.slice A0_1 l0_1.length c0_1) := (blk_cell BK138.out 1).trans rfl;have hfz12_0 := blk_frozen BK138.out 0;have hfz12_1 := blk_frozen BK138.out 1) | (go_at_call 11;(with_reducible refine (galoislaw27_large.calls k a0_0 _ _ l0_1 true _ ?side1 ?side2 A8.out).mono ?_);(case side1 => exact Cst (Kd.C_below HR0_1.out HB.out));(case side2 => exact HC0_1.out);rintro e w13 ⟨rfl, hb⟩;have n0_ := Aside0.mk (blk_below (g := gb138) (o := .cells #[.int .i64 a0_0, .slice A0_1 l0_1.length c0_1] 24 (0, 0)) (blkst BK138.out) hb);have n1_ := Aside0.mk (blk_below (g := gb139) (o := .cells #[.int .i64 a1_0, .slice A1_1 l1_1.length c1_1] 24 (0, 0)) (blkst BK139.out) hb);have n2_ := Aside0.mk (below_step (bel HB.out) hb);clear BK138;clear BK139;clear HB;have BK138 := n0_;have BK139 := n1_;have HB := n2_;clear n0_ n1_ n2_;(try clear hb);(try clear hb2);(try clear hk);(try clear hi)))
     go_meet
     case rel => exact ⟨_, (true), (by first | rfl | (simp;done) | (simp [*];done)), H', ⟨by first | omega | exact Nat.le_refl _⟩, ⟨blkst BK138.out⟩, ⟨blkst BK139.out⟩, ⟨bel HB.out⟩⟩
   ·replace c9 := Bool.eq_false_iff.mpr c9
    subst c9
    have H1 : ((galoislaw27_large.f k a1_0 l1_1).bind fun t142 => (galoislaw27_CosetTables.j0 k t142 a0_0 l0_1 a1_0 l1_1)) = some r := by rw [if_neg (show ¬ (false = true) by decide)] at H;exact H
    clear H
    have H := H1
    clear H1
    replace H := Option.bind_eq_some_iff.mp H
    obtain ⟨t142, A140, H⟩ := H
    replace H : (galoislaw27_CosetTables.j0 k t142 a0_0 l0_1 a1_0 l1_1) = some r := H
    have A14 := Aside0.mk A140
    clear A140
    have H' := Aside0.mk H
    clear H
    as_aux_lemma =>
     go_wp2_with (first|((with_reducible refine gate_callee (f := 10) rfl ?_);refine goesL_ (some 15) rfl rfl Try.func10 (by kernel_rfl) rfl #[] rfl (by (try simp only [List.map_toArray, List.map_cons, List.map_nil]);first | done | rfl | (simp only [List.length_drop, List.length_take];rfl)) ?_;(with_reducible refine (galoislaw27_awake.calls  true _ A6.out).mono ?_);rintro e w15 ⟨rfl, hb⟩;refine ⟨_, rfl, ?_⟩;have n0_ := Aside0.mk (blk_below (g := gb138) (o := .cells #[.int .i64 a0_0, .slice A0_1 l0_1.length c0_1] 24 (0, 0)) (blkst BK138.out) hb);have n1_ := Aside0.mk (blk_below (g := gb139) (o := .cells #[.int .i64 a1_0, .slice A1_1 l1_1.length c1_1] 24 (0, 0)) (blkst BK139.out) hb);have n2_ := Aside0.mk (below_step (bel HB.out) hb);clear BK138;clear BK139;clear HB;have BK138 := n0_;have BK139 := n1_;have HB := n2_;clear n0_ n1_ n2_;(try clear hb);(try clear hb2);(try clear hk);(try clear hi);have hnb16 := NB138_139.out;have hnc16 := NB139_138.out;have hcz17_0 : w15.cell? ⟨gb138, 0, none⟩ = some (.int .i64 a0_0) := (blk_cell BK138.out 0).trans rfl;have hcz17_1 : w15.cell? ⟨gb138, 1, none⟩ = some (.slice A0_1 l0_1.length c0_1) := (blk_cell BK138.out 1).trans rfl;have hfz17_0 := blk_frozen BK138.out 0;have hfz17_1 := blk_frozen BK138.out 1) | (go_at_call 11;(with_reducible refine (galoislaw27_large.calls k a0_0 _ _ l0_1 false _ ?side1 ?side2 A8.out).mono ?_);(case side1 => exact Cst (Kd.C_below HR0_1.out HB.out));(case side2 => exact HC0_1.out);rintro e w18 ⟨rfl, hb⟩;have n0_ := Aside0.mk (blk_below (g := gb138) (o := .cells #[.int .i64 a0_0, .slice A0_1 l0_1.length c0_1] 24 (0, 0)) (blkst BK138.out) hb);have n1_ := Aside0.mk (blk_below (g := gb139) (o := .cells #[.int .i64 a1_0, .slice A1_1 l1_1.length c1_1] 24 (0, 0)) (blkst BK139.out) hb);have n2_ := Aside0.mk (below_step (bel HB.out) hb);clear BK138;clear BK139;clear HB;have BK138 := n0_;have BK139 := n1_;have HB := n2_;clear n0_ n1_ n2_;(try clear hb);(try clear hb2);(try clear hk);(try clear hi);have hcz19_0 : w18.cell? ⟨gb139, 0, none⟩ = some (.int .i64 a1_0) := (blk_cell BK139.out 0).trans rfl;have hcz19_1 : w18.cell? ⟨gb139, 1, none⟩ = some (.slice A1_1 l1_1.length c1_1) := (blk_cell BK139.out 1).trans rfl;have hfz19_0 := blk_frozen BK139.out 0;have hfz19_1 := blk_frozen BK139.out 1) | (go_at_call 11;(with_reducible refine (galoislaw27_large.calls k a1_0 _ _ l1_1 t142 _ ?side1 ?side2 A14.out).mono ?_);(case side1 => exact Cst (Kd.C_below HR1_1.out HB.out));(case side2 => exact HC1_1.out);rintro e w20 ⟨rfl, hb⟩;have n0_ := Aside0.mk (blk_below (g := gb138) (o := .cells #[.int .i64 a0_0, .slice A0_1 l0_1.length c0_1] 24 (0, 0)) (blkst BK138.out) hb);have n1_ := Aside0.mk (blk_below (g := gb139) (o := .cells #[.int .i64 a1_0, .slice A1_1 l1_1.length c1_1] 24 (0, 0)) (blkst BK139.out) hb);have n2_ := Aside0.mk (below_step (bel HB.out) hb);clear BK138;clear BK139;clear HB;have BK138 := n0_;have BK139 := n1_;have HB := n2_;clear n0_ n1_ n2_;(try clear hb);(try clear hb2);(try clear hk);(try clear hi)))
     go_meet
     case rel => exact ⟨_, (t142), (by first | rfl | (simp;done) | (simp [*];done)), H', ⟨by first | omega | exact Nat.le_refl _⟩, ⟨blkst BK138.out⟩, ⟨blkst BK139.out⟩, ⟨bel HB.out⟩⟩
  ·replace c7 := Bool.eq_false_iff.mpr c7
   subst c7
   have H1 : (galoislaw27_CosetTables.j0 k true a0_0 l0_1 a1_0 l1_1) = some r := by rw [if_neg (show ¬ (false = true) by decide)] at H;exact H
   clear H
   have H := H1
   clear H1
   have H' := Aside0.mk H
   clear H
   as_aux_lemma =>
    go_wp2_with (first|((with_reducible refine gate_callee (f := 10) rfl ?_);refine goesL_ (some 15) rfl rfl Try.func10 (by kernel_rfl) rfl #[] rfl (by (try simp only [List.map_toArray, List.map_cons, List.map_nil]);first | done | rfl | (simp only [List.length_drop, List.length_take];rfl)) ?_;(with_reducible refine (galoislaw27_awake.calls  false _ A6.out).mono ?_);rintro e w21 ⟨rfl, hb⟩;refine ⟨_, rfl, ?_⟩;have n0_ := Aside0.mk (blk_below (g := gb138) (o := .cells #[.int .i64 a0_0, .slice A0_1 l0_1.length c0_1] 24 (0, 0)) (blkst BK138.out) hb);have n1_ := Aside0.mk (blk_below (g := gb139) (o := .cells #[.int .i64 a1_0, .slice A1_1 l1_1.length c1_1] 24 (0, 0)) (blkst BK139.out) hb);have n2_ := Aside0.mk (below_step (bel HB.out) hb);clear BK138;clear BK139;clear HB;have BK138 := n0_;have BK139 := n1_;have HB := n2_;clear n0_ n1_ n2_;(try clear hb);(try clear hb2);(try clear hk);(try clear hi)))
    go_meet
    case rel => exact ⟨_, (true), (by first | rfl | (simp;done) | (simp [*];done)), H', ⟨by first | omega | exact Nat.le_refl _⟩, ⟨blkst BK138.out⟩, ⟨blkst BK139.out⟩, ⟨bel HB.out⟩⟩
 case rest =>
  clear HC3
  try clear c1
  try clear p2
  try clear c3
  try clear c7
  try clear c9
  try clear c10
  try clear c11
  try clear c16
  try clear hcz12_0
  try clear hcz12_1
  try clear hcz17_0
  try clear hcz17_1
  try clear hcz19_0
  try clear hcz19_1
  try clear hfz12_0
  try clear hfz12_1
  try clear hfz17_0
  try clear hfz17_1
  try clear hfz19_0
  try clear hfz19_1
  obtain ⟨kq, x24_2, rfl, HA, HJ2, BK138, BK139, HB⟩ := hcut
  cases kq with
  | zero => exact absurd HA.out (by simp [galoislaw27_CosetTables.j0])
  | succ kj2 =>
   have H := HA.out
   clear HA
   simp only [galoislaw27_CosetTables.j0] at H
   by_cases c22 : x24_2 = true
   ·subst c22
    have H1 : ((galoislaw27_awake.f).bind fun t143 => (some t143)) = some r := by rw [if_pos rfl] at H;exact H
    clear H
    have H := H1
    clear H1
    replace H := Option.bind_eq_some_iff.mp H
    obtain ⟨t143, A230, H⟩ := H
    replace H : (some t143) = some r := H
    have A23 := Aside0.mk A230
    clear A230
    obtain rfl := Option.some.inj H
    as_aux_lemma =>
     go_wp2_with (first|((with_reducible refine gate_callee (f := 10) rfl ?_);refine goesL_ (some 25) rfl rfl Try.func10 (by kernel_rfl) rfl #[] rfl (by (try simp only [List.map_toArray, List.map_cons, List.map_nil]);first | done | rfl | (simp only [List.length_drop, List.length_take];rfl)) ?_;(with_reducible refine (galoislaw27_awake.calls  t143 _ A23.out).mono ?_);rintro e w24 ⟨rfl, hb⟩;refine ⟨_, rfl, ?_⟩;have n0_ := Aside0.mk (blk_below (g := gb138) (o := .cells #[.int .i64 a0_0, .slice A0_1 l0_1.length c0_1] 24 (0, 0)) (blkst BK138.out) hb);have n1_ := Aside0.mk (blk_below (g := gb139) (o := .cells #[.int .i64 a1_0, .slice A1_1 l1_1.length c1_1] 24 (0, 0)) (blkst BK139.out) hb);have n2_ := Aside0.mk (below_step (bel HB.out) hb);clear BK138;clear BK139;clear HB;have BK138 := n0_;have BK139 := n1_;have HB := n2_;clear n0_ n1_ n2_;(try clear hb);(try clear hb2);(try clear hk);(try clear hi)))
     go_ret
     exact ⟨by first | rfl | (simp [errW_none, errW_some] <;> rfl) | (simp [*, errW_none, errW_some] <;> rfl), bel HB.out⟩
   ·replace c22 := Bool.eq_false_iff.mpr c22
    subst c22
    have H1 : ((coset_Table.f kj2 a0_0 l0_1).bind fun bt144 => ((coset_Quotient.f kj2 a0_0 l0_1 a1_0 l1_1).bind fun bt148 => ((galoisref23_Check.f kj2 a0_0 l0_1).bind fun t152 => (if t152 = 0 then ((galoisref23_Elements.f kj2 a0_0 l0_1).bind fun bt153 => (if (bt153.1.length : Int) > 120 then (if (bt144.1.length : Int) > 0 then (some false) else (if bt144.2 = 4 then (galoislaw27_CosetTables.j1 kj2 bt148.1 bt148.2 a0_0 l0_1 a1_0 l1_1) else (some false))) else (if bt144.2 = 0 then ((galoisref27_Table.f kj2 bt153.1).bind fun t157 => ((galoisref22_SameLists.f kj2 bt144.1 t157).bind fun t160 => (if t160 = true then (galoislaw27_CosetTables.j1 kj2 bt148.1 bt148.2 a0_0 l0_1 a1_0 l1_1) else (some false)))) else (some false)))) else (if (bt144.1.length : Int) = 0 then (if bt144.2 = t152 then (if (bt148.1.length : Int) = 0 then (some (bt148.2 == t152)) else (some false)) else (some false)) else (some false)))))) = some r := by rw [if_neg (show ¬ (false = true) by decide)] at H;exact H
    clear H
    have H := H1
    clear H1
    replace H := Option.bind_eq_some_iff.mp H
    obtain ⟨⟨t144, t147⟩, A250, H⟩ := H
    replace H : ((coset_Quotient.f kj2 a0_0 l0_1 a1_0 l1_1).bind fun bt148 => ((galoisref23_Check.f kj2 a0_0 l0_1).bind fun t152 => (if t152 = 0 then ((galoisref23_Elements.f kj2 a0_0 l0_1).bind fun bt153 => (if (bt153.1.length : Int) > 120 then (if (t144.length : Int) > 0 then (some false) else (if t147 = 4 then (galoislaw27_CosetTables.j1 kj2 bt148.1 bt148.2 a0_0 l0_1 a1_0 l1_1) else (some false))) else (if t147 = 0 then ((galoisref27_Table.f kj2 bt153.1).bind fun t157 => ((galoisref22_SameLists.f kj2 t144 t157).bind fun t160 => (if t160 = true then (galoislaw27_CosetTables.j1 kj2 bt148.1 bt148.2 a0_0 l0_1 a1_0 l1_1) else (some false)))) else (some false)))) else (if (t144.length : Int) = 0 then (if t147 = t152 then (if (bt148.1.length : Int) = 0 then (some (bt148.2 == t152)) else (some false)) else (some false)) else (some false))))) = some r := H
    have A25 := Aside0.mk A250
    clear A250
    replace H := Option.bind_eq_some_iff.mp H
    obtain ⟨⟨t148, t151⟩, A260, H⟩ := H
    replace H : ((galoisref23_Check.f kj2 a0_0 l0_1).bind fun t152 => (if t152 = 0 then ((galoisref23_Elements.f kj2 a0_0 l0_1).bind fun bt153 => (if (bt153.1.length : Int) > 120 then (if (t144.length : Int) > 0 then (some false) else (if t147 = 4 then (galoislaw27_CosetTables.j1 kj2 t148 t151 a0_0 l0_1 a1_0 l1_1) else (some false))) else (if t147 = 0 then ((galoisref27_Table.f kj2 bt153.1).bind fun t157 => ((galoisref22_SameLists.f kj2 t144 t157).bind fun t160 => (if t160 = true then (galoislaw27_CosetTables.j1 kj2 t148 t151 a0_0 l0_1 a1_0 l1_1) else (some false)))) else (some false)))) else (if (t144.length : Int) = 0 then (if t147 = t152 then (if (t148.length : Int) = 0 then (some (t151 == t152)) else (some false)) else (some false)) else (some false)))) = some r := H
    have A26 := Aside0.mk A260
    clear A260
    replace H := Option.bind_eq_some_iff.mp H
    obtain ⟨t152, A270, H⟩ := H
    replace H : (if t152 = 0 then ((galoisref23_Elements.f kj2 a0_0 l0_1).bind fun bt153 => (if (bt153.1.length : Int) > 120 then (if (t144.length : Int) > 0 then (some false) else (if t147 = 4 then (galoislaw27_CosetTables.j1 kj2 t148 t151 a0_0 l0_1 a1_0 l1_1) else (some false))) else (if t147 = 0 then ((galoisref27_Table.f kj2 bt153.1).bind fun t157 => ((galoisref22_SameLists.f kj2 t144 t157).bind fun t160 => (if t160 = true then (galoislaw27_CosetTables.j1 kj2 t148 t151 a0_0 l0_1 a1_0 l1_1) else (some false)))) else (some false)))) else (if (t144.length : Int) = 0 then (if t147 = t152 then (if (t148.length : Int) = 0 then (some (t151 == t152)) else (some false)) else (some false)) else (some false))) = some r := H
    have A27 := Aside0.mk A270
    clear A270
    by_cases c28 : t152 = 0
    ·rw [if_pos c28] at H
     have c28b0 : (t152 == 0) = true := beq_iff_eq.mpr c28
     have c28b1 : (t152 != 0) = false := bne_eq_false_iff_eq.mpr c28
     clear c28
     replace H := Option.bind_eq_some_iff.mp H
     obtain ⟨⟨t153, t156⟩, A290, H⟩ := H
     replace H : (if (t153.length : Int) > 120 then (if (t144.length : Int) > 0 then (some false) else (if t147 = 4 then (galoislaw27_CosetTables.j1 kj2 t148 t151 a0_0 l0_1 a1_0 l1_1) else (some false))) else (if t147 = 0 then ((galoisref27_Table.f kj2 t153).bind fun t157 => ((galoisref22_SameLists.f kj2 t144 t157).bind fun t160 => (if t160 = true then (galoislaw27_CosetTables.j1 kj2 t148 t151 a0_0 l0_1 a1_0 l1_1) else (some false)))) else (some false))) = some r := H
     have A29 := Aside0.mk A290
     clear A290
     have HC30 := Aside0.mk H
     clear H
     have hnb31 := NB138_139.out
     have hnc31 := NB139_138.out
     have hcz32_0 : wc.cell? ⟨gb138, 0, none⟩ = some (.int .i64 a0_0) := (blk_cell BK138.out 0).trans rfl
     have hcz32_1 : wc.cell? ⟨gb138, 1, none⟩ = some (.slice A0_1 l0_1.length c0_1) := (blk_cell BK138.out 1).trans rfl
     have hfz32_0 := blk_frozen BK138.out 0
     have hfz32_1 := blk_frozen BK138.out 1
     go_upto_if 66 with (first|((with_reducible refine gate_callee (f := 12) rfl ?_);refine goesL_ (some 28) rfl rfl Try.func12 (by kernel_rfl) rfl #[.agg #[.int .i64 a0_0, .slice A0_1 l0_1.length c0_1]] rfl (by (try simp only [List.map_toArray, List.map_cons, List.map_nil]);first | done | rfl | (simp only [List.length_drop, List.length_take];rfl)) ?_;(with_reducible refine (coset_Table.calls kj2 a0_0 _ _ l0_1 t144 t147 _ ?side1 ?side2 A25.out).mono ?_);(case side1 => exact Cst (Kd.C_below HR0_1.out HB.out));(case side2 => exact HC0_1.out);rintro e w33 ⟨v145, rfl, ho0, hb⟩;refine ⟨_, rfl, ?_⟩;have n0_ := Aside0.mk (Kd.N_lower (Kd.N_mono (ok' := fun k_ => k_ ≠ gb138 ∧ k_ ≠ gb139) (Kd.S_N (Kd.S_bound ho0)) (fun k_ hk_ => ⟨(Kd.freshB (g := gb138) (o := .cells #[.int .i64 a0_0, .slice A0_1 l0_1.length c0_1] 24 (0, 0)) (blkst BK138.out) k_ hk_.2.1), (Kd.freshB (g := gb139) (o := .cells #[.int .i64 a1_0, .slice A1_1 l1_1.length c1_1] 24 (0, 0)) (blkst BK139.out) k_ hk_.2.1)⟩)) (below_size (bel HB.out)));have n1_ := Aside0.mk (blk_below (g := gb138) (o := .cells #[.int .i64 a0_0, .slice A0_1 l0_1.length c0_1] 24 (0, 0)) (blkst BK138.out) hb);have n2_ := Aside0.mk (blk_below (g := gb139) (o := .cells #[.int .i64 a1_0, .slice A1_1 l1_1.length c1_1] 24 (0, 0)) (blkst BK139.out) hb);have n3_ := Aside0.mk (below_step (bel HB.out) hb);clear BK138;clear BK139;clear HB;have HO146 := n0_;have BK138 := n1_;have BK139 := n2_;have HB := n3_;clear n0_ n1_ n2_ n3_;(try clear hb);(try clear hb2);(try clear hk);(try clear hi);(try clear ho0);have hcz34_0 : w33.cell? ⟨gb138, 0, none⟩ = some (.int .i64 a0_0) := (blk_cell BK138.out 0).trans rfl;have hcz34_1 : w33.cell? ⟨gb138, 1, none⟩ = some (.slice A0_1 l0_1.length c0_1) := (blk_cell BK138.out 1).trans rfl;have hfz34_0 := blk_frozen BK138.out 0;have hfz34_1 := blk_frozen BK138.out 1;have hcz35_0 : w33.cell? ⟨gb139, 0, none⟩ = some (.int .i64 a1_0) := (blk_cell BK139.out 0).trans rfl;have hcz35_1 : w33.cell? ⟨gb139, 1, none⟩ = some (.slice A1_1 l1_1.length c1_1) := (blk_cell BK139.out 1).trans rfl;have hfz35_0 := blk_frozen BK139.out 0;have hfz35_1 := blk_frozen BK139.out 1) | ((with_reducible refine gate_callee (f := 13) rfl ?_);refine goesL_ (some 34) rfl rfl Try.func13 (by kernel_rfl) rfl #[.agg #[.int .i64 a0_0, .slice A0_1 l0_1.length c0_1], .agg #[.int .i64 a1_0, .slice A1_1 l1_1.length c1_1]] rfl (by (try simp only [List.map_toArray, List.map_cons, List.map_nil]);first | done | rfl | (simp only [List.length_drop, List.length_take];rfl)) ?_;(with_reducible refine (coset_Quotient.calls kj2 a0_0 _ _ l0_1 a1_0 _ _ l1_1 t148 t151 _ ?side1 ?side2 ?side3 ?side4 A26.out).mono ?_);(case side1 => exact Cst (Kd.C_below HR0_1.out HB.out));(case side2 => exact HC0_1.out);(case side3 => exact Cst (Kd.C_below HR1_1.out HB.out));(case side4 => exact HC1_1.out);rintro e w36 ⟨v149, rfl, ho0, hb⟩;refine ⟨_, rfl, ?_⟩;have n0_ := Aside0.mk (Kd.N_elder' (Nst HO146.out) (by first | exact Kd.N_base ho0 | exact Kd.S_base ho0 | exact Kd.R_base ho0) hb);have n1_ := Aside0.mk (Kd.N_lower (Kd.N_mono (ok' := fun k_ => some k_ ≠ (v145 : Value).ownBlock ∧ k_ ≠ gb138 ∧ k_ ≠ gb139) (Kd.S_N (Kd.S_bound ho0)) (fun k_ hk_ => ⟨(Kd.fresh' (Kd.N_lt (Nst HO146.out)) k_ hk_.2.1), (Kd.freshB (g := gb138) (o := .cells #[.int .i64 a0_0, .slice A0_1 l0_1.length c0_1] 24 (0, 0)) (blkst BK138.out) k_ hk_.2.1), (Kd.freshB (g := gb139) (o := .cells #[.int .i64 a1_0, .slice A1_1 l1_1.length c1_1] 24 (0, 0)) (blkst BK139.out) k_ hk_.2.1)⟩)) (below_size (bel HB.out)));have n2_ := Aside0.mk (blk_below (g := gb138) (o := .cells #[.int .i64 a0_0, .slice A0_1 l0_1.length c0_1] 24 (0, 0)) (blkst BK138.out) hb);have n3_ := Aside0.mk (blk_below (g := gb139) (o := .cells #[.int .i64 a1_0, .slice A1_1 l1_1.length c1_1] 24 (0, 0)) (blkst BK139.out) hb);have n4_ := Aside0.mk (below_step (bel HB.out) hb);clear HO146;clear BK138;clear BK139;clear HB;have HO146 := n0_;have HO150 := n1_;have BK138 := n2_;have BK139 := n3_;have HB := n4_;clear n0_ n1_ n2_ n3_ n4_;(try clear hb);(try clear hb2);(try clear hk);(try clear hi);(try clear ho0);have hcz37_0 : w36.cell? ⟨gb138, 0, none⟩ = some (.int .i64 a0_0) := (blk_cell BK138.out 0).trans rfl;have hcz37_1 : w36.cell? ⟨gb138, 1, none⟩ = some (.slice A0_1 l0_1.length c0_1) := (blk_cell BK138.out 1).trans rfl;have hfz37_0 := blk_frozen BK138.out 0;have hfz37_1 := blk_frozen BK138.out 1) | ((with_reducible refine gate_callee (f := 14) rfl ?_);refine goesL_ (some 38) rfl rfl Try.func14 (by kernel_rfl) rfl #[.agg #[.int .i64 a0_0, .slice A0_1 l0_1.length c0_1]] rfl (by (try simp only [List.map_toArray, List.map_cons, List.map_nil]);first | done | rfl | (simp only [List.length_drop, List.length_take];rfl)) ?_;(with_reducible refine (galoisref23_Check.calls kj2 a0_0 _ _ l0_1 t152 _ ?side1 ?side2 A27.out).mono ?_);(case side1 => exact Cst (Kd.C_below HR0_1.out HB.out));(case side2 => exact HC0_1.out);rintro e w38 ⟨rfl, hb⟩;refine ⟨_, rfl, ?_⟩;have n0_ := Aside0.mk (Kd.N_below (Nst HO146.out) hb);have n1_ := Aside0.mk (Kd.N_below (Nst HO150.out) hb);have n2_ := Aside0.mk (blk_below (g := gb138) (o := .cells #[.int .i64 a0_0, .slice A0_1 l0_1.length c0_1] 24 (0, 0)) (blkst BK138.out) hb);have n3_ := Aside0.mk (blk_below (g := gb139) (o := .cells #[.int .i64 a1_0, .slice A1_1 l1_1.length c1_1] 24 (0, 0)) (blkst BK139.out) hb);have n4_ := Aside0.mk (below_step (bel HB.out) hb);clear HO146;clear HO150;clear BK138;clear BK139;clear HB;have HO146 := n0_;have HO150 := n1_;have BK138 := n2_;have BK139 := n3_;have HB := n4_;clear n0_ n1_ n2_ n3_ n4_;(try clear hb);(try clear hb2);(try clear hk);(try clear hi);have hcz39_0 : w38.cell? ⟨gb138, 0, none⟩ = some (.int .i64 a0_0) := (blk_cell BK138.out 0).trans rfl;have hcz39_1 : w38.cell? ⟨gb138, 1, none⟩ = some (.slice A0_1 l0_1.length c0_1) := (blk_cell BK138.out 1).trans rfl;have hfz39_0 := blk_frozen BK138.out 0;have hfz39_1 := blk_frozen BK138.out 1) | ((with_reducible refine gate_callee (f := 15) rfl ?_);refine goesL_ (some 61) rfl rfl Try.func15 (by kernel_rfl) rfl #[.agg #[.int .i64 a0_0, .slice A0_1 l0_1.length c0_1]] rfl (by (try simp only [List.map_toArray, List.map_cons, List.map_nil]);first | done | rfl | (simp only [List.length_drop, List.length_take];rfl)) ?_;(with_reducible refine (galoisref23_Elements.calls kj2 a0_0 _ _ l0_1 t153 t156 _ ?side1 ?side2 A29.out).mono ?_);(case side1 => exact Cst (Kd.C_below HR0_1.out HB.out));(case side2 => exact HC0_1.out);rintro e w40 ⟨v154, rfl, ho0, hb⟩;refine ⟨_, rfl, ?_⟩;have n0_ := Aside0.mk (Kd.N_elder' (Nst HO146.out) (by first | exact Kd.N_base ho0 | exact Kd.S_base ho0 | exact Kd.R_base ho0) hb);have n1_ := Aside0.mk (Kd.N_elder' (Nst HO150.out) (by first | exact Kd.N_base ho0 | exact Kd.S_base ho0 | exact Kd.R_base ho0) hb);have n2_ := Aside0.mk (Kd.N_lower (Kd.N_mono (ok' := fun k_ => some k_ ≠ (v145 : Value).ownBlock ∧ some k_ ≠ (v149 : Value).ownBlock ∧ k_ ≠ gb138 ∧ k_ ≠ gb139) (Kd.S_N (Kd.S_bound ho0)) (fun k_ hk_ => ⟨(Kd.fresh' (Kd.N_lt (Nst HO146.out)) k_ hk_.2.1), (Kd.fresh' (Kd.N_lt (Nst HO150.out)) k_ hk_.2.1), (Kd.freshB (g := gb138) (o := .cells #[.int .i64 a0_0, .slice A0_1 l0_1.length c0_1] 24 (0, 0)) (blkst BK138.out) k_ hk_.2.1), (Kd.freshB (g := gb139) (o := .cells #[.int .i64 a1_0, .slice A1_1 l1_1.length c1_1] 24 (0, 0)) (blkst BK139.out) k_ hk_.2.1)⟩)) (below_size (bel HB.out)));have n3_ := Aside0.mk (blk_below (g := gb138) (o := .cells #[.int .i64 a0_0, .slice A0_1 l0_1.length c0_1] 24 (0, 0)) (blkst BK138.out) hb);have n4_ := Aside0.mk (blk_below (g := gb139) (o := .cells #[.int .i64 a1_0, .slice A1_1 l1_1.length c1_1] 24 (0, 0)) (blkst BK139.out) hb);have n5_ := Aside0.mk (below_step (bel HB.out) hb);clear HO146;clear HO150;clear BK138;clear BK139;clear HB;have HO146 := n0_;have HO150 := n1_;have HO155 := n2_;have BK138 := n3_;have BK139 := n4_;have HB := n5_;clear n0_ n1_ n2_ n3_ n4_ n5_;(try clear hb);(try clear hb2);(try clear hk);(try clear hi);(try clear ho0);obtain ⟨Ao41, co41, eo41⟩ := Kd.N_slice HO155.out;subst eo41))
     (try simp only [Act.put, List.setIfInBounds_toArray, List.set_cons_zero, List.set_cons_succ])
     go_cut [] (fun wc => ∃ (kq : Nat), Aside0 (galoislaw27_CosetTables.j1 kq t148 t151 a0_0 l0_1 a1_0 l1_1 = some r) ∧ Aside0 (kq ≤ kj2) ∧ Aside0 (Kd.N (Kd.slice 3 (Kd.int .i64)) 42 wc w.heap.size (fun k_ => k_ ≠ gb138 ∧ k_ ≠ gb139) v149 t148) ∧ Aside0 (wc.heap[gb138]? = some (.cells #[.int .i64 a0_0, (.slice A0_1 l0_1.length c0_1)] 24 (0, 0))) ∧ Aside0 (wc.heap[gb139]? = some (.cells #[.int .i64 a1_0, (.slice A1_1 l1_1.length c1_1)] 24 (0, 0))) ∧ Aside0 (Below w.heap.size w wc))
     case first =>
      have H := HC30.out
      clear HC30
      by_cases c42 : (t153.length : Int) > 120
      ·rw [if_pos c42] at H
       have c42b0 : decide (120 < (t153.length : Int)) = true := decide_eq_true c42
       have c42b1 : decide (120 < t153.length) = true := decide_eq_true (by omega)
       clear c42
       (first|rw [c42b0] | (simp only [i64_w, i32_w];rw [c42b0]) | skip)
       by_cases c43 : (t144.length : Int) > 0
       ·rw [if_pos c43] at H
        have c43b0 : decide (0 < (t144.length : Int)) = true := decide_eq_true c43
        have c43b1 : decide (0 < t144.length) = true := decide_eq_true (by omega)
        clear c43
        obtain rfl := Option.some.inj H
        obtain ⟨Ao44, co44, eo44⟩ := Kd.N_slice HO146.out
        subst eo44
        as_aux_lemma =>
         go_wp2
         go_ret
         exact ⟨by first | rfl | (simp [errW_none, errW_some] <;> rfl) | (simp [*, errW_none, errW_some] <;> rfl), bel HB.out⟩
       ·rw [if_neg c43] at H
        have c43b0 : decide (0 < (t144.length : Int)) = false := decide_eq_false c43
        have c43b1 : decide (0 < t144.length) = false := decide_eq_false (by omega)
        clear c43
        by_cases c45 : t147 = 4
        ·rw [if_pos c45] at H
         have c45b0 : (t147 == 4) = true := beq_iff_eq.mpr c45
         have c45b1 : (t147 != 4) = false := bne_eq_false_iff_eq.mpr c45
         clear c45
         have H' := Aside0.mk H
         clear H
         obtain ⟨Ao46, co46, eo46⟩ := Kd.N_slice HO146.out
         subst eo46
         as_aux_lemma =>
          go_wp2
          go_meet
          case rel => exact ⟨_, H', ⟨by have := HJ2.out;first | omega | exact Nat.le_refl _⟩, ⟨by (with_reducible repeat (first|apply Kd.N_alloc | apply Kd.N_drewN | apply Kd.N_drew));exact Kd.N_mono HO150.out (fun _ hk => ⟨hk.1.2.1, hk.1.2.2⟩)⟩, ⟨blkst BK138.out⟩, ⟨blkst BK139.out⟩, ⟨bel HB.out⟩⟩
        ·rw [if_neg c45] at H
         have c45b0 : (t147 == 4) = false := beq_eq_false_iff_ne.mpr c45
         have c45b1 : (t147 != 4) = true := bne_iff_ne.mpr c45
         obtain rfl := Option.some.inj H
         obtain ⟨Ao47, co47, eo47⟩ := Kd.N_slice HO146.out
         subst eo47
         as_aux_lemma =>
          go_wp2
          go_ret
          exact ⟨by first | rfl | (simp [errW_none, errW_some] <;> rfl) | (simp [*, errW_none, errW_some] <;> rfl), bel HB.out⟩
      ·rw [if_neg c42] at H
       have c42b0 : decide (120 < (t153.length : Int)) = false := decide_eq_false c42
       have c42b1 : decide (120 < t153.length) = false := decide_eq_false (by omega)
       clear c42
       (first|rw [c42b0] | (simp only [i64_w, i32_w];rw [c42b0]) | skip)
       by_cases c48 : t147 = 0
       ·rw [if_pos c48] at H
        have c48b0 : (t147 == 0) = true := beq_iff_eq.mpr c48
        have c48b1 : (t147 != 0) = false := bne_eq_false_iff_eq.mpr c48
        clear c48
        replace H := Option.bind_eq_some_iff.mp H
        obtain ⟨t157, A490, H⟩ := H
        replace H : ((galoisref22_SameLists.f kj2 t144 t157).bind fun t160 => (if t160 = true then (galoislaw27_CosetTables.j1 kj2 t148 t151 a0_0 l0_1 a1_0 l1_1) else (some false))) = some r := H
        have A49 := Aside0.mk A490
        clear A490
        replace H := Option.bind_eq_some_iff.mp H
        obtain ⟨t160, A500, H⟩ := H
        replace H : (if t160 = true then (galoislaw27_CosetTables.j1 kj2 t148 t151 a0_0 l0_1 a1_0 l1_1) else (some false)) = some r := H
        have A50 := Aside0.mk A500
        clear A500
        by_cases c51 : t160 = true
        ·subst c51
         have H1 : (galoislaw27_CosetTables.j1 kj2 t148 t151 a0_0 l0_1 a1_0 l1_1) = some r := by rw [if_pos rfl] at H;exact H
         clear H
         have H := H1
         clear H1
         have H' := Aside0.mk H
         clear H
         as_aux_lemma =>
          go_wp2_with (first|(go_at_call 17;(with_reducible refine (galoisref27_Table.calls kj2 _ _ t153 t157 _ ?side1 ?side2 A49.out).mono ?_);(case side1 => repeat (first|exact (Kd.N_reads' HO155.out).2.2 | (with_reducible refine Kd.C_alloc ?_ _) | (with_reducible refine Kd.C_drewN ?_ _) | (with_reducible refine Kd.C_drew ?_)));(case side2 => exact (Kd.N_reads' HO155.out).2.1);rintro e w52 ⟨v158, rfl, ho0, hb⟩;have n0_ := Aside0.mk (Kd.N_elder' (Nst HO146.out) (by first | exact Kd.N_base ho0 | exact Kd.S_base ho0 | exact Kd.R_base ho0) hb);have n1_ := Aside0.mk (Kd.N_elder' (Nst HO150.out) (by first | exact Kd.N_base ho0 | exact Kd.S_base ho0 | exact Kd.R_base ho0) hb);have n2_ := Aside0.mk (Kd.N_elder' (Nst HO155.out) (by first | exact Kd.N_base ho0 | exact Kd.S_base ho0 | exact Kd.R_base ho0) hb);have n3_ := Aside0.mk (Kd.N_lower (Kd.N_mono (ok' := fun k_ => some k_ ≠ (v145 : Value).ownBlock ∧ some k_ ≠ (v149 : Value).ownBlock ∧ some k_ ≠ (.slice Ao41 t153.length co41 : Value).ownBlock ∧ k_ ≠ gb138 ∧ k_ ≠ gb139) (Kd.S_N (Kd.S_bound ho0)) (fun k_ hk_ => ⟨(Kd.fresh' (Kd.N_lt (Nst HO146.out)) k_ hk_.2.1), (Kd.fresh' (Kd.N_lt (Nst HO150.out)) k_ hk_.2.1), (Kd.fresh' (Kd.N_lt (Nst HO155.out)) k_ hk_.2.1), (Kd.freshB (g := gb138) (o := .cells #[.int .i64 a0_0, .slice A0_1 l0_1.length c0_1] 24 (0, 0)) (blkst BK138.out) k_ hk_.2.1), (Kd.freshB (g := gb139) (o := .cells #[.int .i64 a1_0, .slice A1_1 l1_1.length c1_1] 24 (0, 0)) (blkst BK139.out) k_ hk_.2.1)⟩)) (below_size (bel HB.out)));have n4_ := Aside0.mk (blk_below (g := gb138) (o := .cells #[.int .i64 a0_0, .slice A0_1 l0_1.length c0_1] 24 (0, 0)) (blkst BK138.out) hb);have n5_ := Aside0.mk (blk_below (g := gb139) (o := .cells #[.int .i64 a1_0, .slice A1_1 l1_1.length c1_1] 24 (0, 0)) (blkst BK139.out) hb);have n6_ := Aside0.mk (below_step (bel HB.out) hb);clear HO146;clear HO150;clear HO155;clear BK138;clear BK139;clear HB;have HO146 := n0_;have HO150 := n1_;have HO155 := n2_;have HO159 := n3_;have BK138 := n4_;have BK139 := n5_;have HB := n6_;clear n0_ n1_ n2_ n3_ n4_ n5_ n6_;(try clear hb);(try clear hb2);(try clear hk);(try clear hi);(try clear ho0);obtain ⟨Ao53, co53, eo53⟩ := Kd.N_slice HO146.out;subst eo53;obtain ⟨Ao54, co54, eo54⟩ := Kd.N_slice HO159.out;subst eo54) | (go_at_call 16;(with_reducible refine (galoisref22_SameLists.calls kj2 _ _ t144 _ _ t157 true _ ?side1 ?side2 ?side3 ?side4 A50.out).mono ?_);(case side1 => repeat (first|exact (Kd.N_reads' HO146.out).2.2 | (with_reducible refine Kd.C_alloc ?_ _) | (with_reducible refine Kd.C_drewN ?_ _) | (with_reducible refine Kd.C_drew ?_)));(case side2 => exact (Kd.N_reads' HO146.out).2.1);(case side3 => repeat (first|exact (Kd.N_reads' HO159.out).2.2 | (with_reducible refine Kd.C_alloc ?_ _) | (with_reducible refine Kd.C_drewN ?_ _) | (with_reducible refine Kd.C_drew ?_)));(case side4 => exact (Kd.N_reads' HO159.out).2.1);rintro e w' ⟨rfl, ⟨nd, rfl⟩⟩))
          go_meet
          case rel => exact ⟨_, H', ⟨by have := HJ2.out;first | omega | exact Nat.le_refl _⟩, ⟨by (with_reducible repeat (first|apply Kd.N_alloc | apply Kd.N_drewN | apply Kd.N_drew));exact Kd.N_mono HO150.out (fun _ hk => ⟨hk.1.1.2.1, hk.1.1.2.2⟩)⟩, ⟨blkst BK138.out⟩, ⟨blkst BK139.out⟩, ⟨bel HB.out⟩⟩
        ·replace c51 := Bool.eq_false_iff.mpr c51
         subst c51
         have H1 : (some false) = some r := by rw [if_neg (show ¬ (false = true) by decide)] at H;exact H
         clear H
         have H := H1
         clear H1
         obtain rfl := Option.some.inj H
         as_aux_lemma =>
          go_wp2_with (first|(go_at_call 17;(with_reducible refine (galoisref27_Table.calls kj2 _ _ t153 t157 _ ?side1 ?side2 A49.out).mono ?_);(case side1 => repeat (first|exact (Kd.N_reads' HO155.out).2.2 | (with_reducible refine Kd.C_alloc ?_ _) | (with_reducible refine Kd.C_drewN ?_ _) | (with_reducible refine Kd.C_drew ?_)));(case side2 => exact (Kd.N_reads' HO155.out).2.1);rintro e w55 ⟨v158, rfl, ho0, hb⟩;have n0_ := Aside0.mk (Kd.N_elder' (Nst HO146.out) (by first | exact Kd.N_base ho0 | exact Kd.S_base ho0 | exact Kd.R_base ho0) hb);have n1_ := Aside0.mk (Kd.N_elder' (Nst HO150.out) (by first | exact Kd.N_base ho0 | exact Kd.S_base ho0 | exact Kd.R_base ho0) hb);have n2_ := Aside0.mk (Kd.N_elder' (Nst HO155.out) (by first | exact Kd.N_base ho0 | exact Kd.S_base ho0 | exact Kd.R_base ho0) hb);have n3_ := Aside0.mk (Kd.N_lower (Kd.N_mono (ok' := fun k_ => some k_ ≠ (v145 : Value).ownBlock ∧ some k_ ≠ (v149 : Value).ownBlock ∧ some k_ ≠ (.slice Ao41 t153.length co41 : Value).ownBlock ∧ k_ ≠ gb138 ∧ k_ ≠ gb139) (Kd.S_N (Kd.S_bound ho0)) (fun k_ hk_ => ⟨(Kd.fresh' (Kd.N_lt (Nst HO146.out)) k_ hk_.2.1), (Kd.fresh' (Kd.N_lt (Nst HO150.out)) k_ hk_.2.1), (Kd.fresh' (Kd.N_lt (Nst HO155.out)) k_ hk_.2.1), (Kd.freshB (g := gb138) (o := .cells #[.int .i64 a0_0, .slice A0_1 l0_1.length c0_1] 24 (0, 0)) (blkst BK138.out) k_ hk_.2.1), (Kd.freshB (g := gb139) (o := .cells #[.int .i64 a1_0, .slice A1_1 l1_1.length c1_1] 24 (0, 0)) (blkst BK139.out) k_ hk_.2.1)⟩)) (below_size (bel HB.out)));have n4_ := Aside0.mk (blk_below (g := gb138) (o := .cells #[.int .i64 a0_0, .slice A0_1 l0_1.length c0_1] 24 (0, 0)) (blkst BK138.out) hb);have n5_ := Aside0.mk (blk_below (g := gb139) (o := .cells #[.int .i64 a1_0, .slice A1_1 l1_1.length c1_1] 24 (0, 0)) (blkst BK139.out) hb);have n6_ := Aside0.mk (below_step (bel HB.out) hb);clear HO146;clear HO150;clear HO155;clear BK138;clear BK139;clear HB;have HO146 := n0_;have HO150 := n1_;have HO155 := n2_;have HO159 := n3_;have BK138 := n4_;have BK139 := n5_;have HB := n6_;clear n0_ n1_ n2_ n3_ n4_ n5_ n6_;(try clear hb);(try clear hb2);(try clear hk);(try clear hi);(try clear ho0);obtain ⟨Ao56, co56, eo56⟩ := Kd.N_slice HO146.out;subst eo56;obtain ⟨Ao57, co57, eo57⟩ := Kd.N_slice HO159.out;subst eo57) | (go_at_call 16;(with_reducible refine (galoisref22_SameLists.calls kj2 _ _ t144 _ _ t157 false _ ?side1 ?side2 ?side3 ?side4 A50.out).mono ?_);(case side1 => repeat (first|exact (Kd.N_reads' HO146.out).2.2 | (with_reducible refine Kd.C_alloc ?_ _) | (with_reducible refine Kd.C_drewN ?_ _) | (with_reducible refine Kd.C_drew ?_)));(case side2 => exact (Kd.N_reads' HO146.out).2.1);(case side3 => repeat (first|exact (Kd.N_reads' HO159.out).2.2 | (with_reducible refine Kd.C_alloc ?_ _) | (with_reducible refine Kd.C_drewN ?_ _) | (with_reducible refine Kd.C_drew ?_)));(case side4 => exact (Kd.N_reads' HO159.out).2.1);rintro e w' ⟨rfl, ⟨nd, rfl⟩⟩))
          go_ret
          exact ⟨by first | rfl | (simp [errW_none, errW_some] <;> rfl) | (simp [*, errW_none, errW_some] <;> rfl), bel HB.out⟩
       ·rw [if_neg c48] at H
        have c48b0 : (t147 == 0) = false := beq_eq_false_iff_ne.mpr c48
        have c48b1 : (t147 != 0) = true := bne_iff_ne.mpr c48
        obtain rfl := Option.some.inj H
        as_aux_lemma =>
         go_wp2
         go_ret
         exact ⟨by first | rfl | (simp [errW_none, errW_some] <;> rfl) | (simp [*, errW_none, errW_some] <;> rfl), bel HB.out⟩
     case rest =>
      clear HC30
      try clear c1
      try clear c2
      try clear p2
      try clear c3
      try clear c4
      try clear c5
      try clear c7
      try clear c9
      try clear c10
      try clear c11
      try clear c12
      try clear c13
      try clear c14
      try clear c15
      try clear c16
      try clear c22
      try clear c28
      try clear c28b0
      try clear c28b1
      try clear c31
      try clear c42
      try clear c42b0
      try clear c42b1
      try clear c43
      try clear c43b0
      try clear c43b1
      try clear c45
      try clear c45b0
      try clear c45b1
      try clear c48
      try clear c48b0
      try clear c48b1
      try clear c51
      try clear hcz12_0
      try clear hcz12_1
      try clear hcz17_0
      try clear hcz17_1
      try clear hcz19_0
      try clear hcz19_1
      try clear hcz32_0
      try clear hcz32_1
      try clear hcz34_0
      try clear hcz34_1
      try clear hcz35_0
      try clear hcz35_1
      try clear hcz37_0
      try clear hcz37_1
      try clear hcz39_0
      try clear hcz39_1
      try clear hfz12_0
      try clear hfz12_1
      try clear hfz17_0
      try clear hfz17_1
      try clear hfz19_0
      try clear hfz19_1
      try clear hfz32_0
      try clear hfz32_1
      try clear hfz34_0
      try clear hfz34_1
      try clear hfz35_0
      try clear hfz35_1
      try clear hfz37_0
      try clear hfz37_1
      try clear hfz39_0
      try clear hfz39_1
      try clear p2
      obtain ⟨kq, HA, HJ29, HO_7, BK138, BK139, HB⟩ := hcut
      cases kq with
      | zero => exact absurd HA.out (by simp [galoislaw27_CosetTables.j1])
      | succ kj29 =>
       have H := HA.out
       clear HA
       simp only [galoislaw27_CosetTables.j1] at H
       replace H := Option.bind_eq_some_iff.mp H
       obtain ⟨⟨t161, t164, t167⟩, A580, H⟩ := H
       replace H : (if t167 = 0 then ((galoisref27_Core.f kj29 t161 t164).bind fun t168 => (galoislaw27_CosetTables.j2 kj29 t148 t151 t161 t164 t167 (decide ((t168.length : Int) < (t164.length : Int))))) else (galoislaw27_CosetTables.j2 kj29 t148 t151 t161 t164 t167 false)) = some r := H
       have A58 := Aside0.mk A580
       clear A580
       have HC59 := Aside0.mk H
       clear H
       have hnb60 := NB138_139.out
       have hnc60 := NB139_138.out
       have hcz61_0 : wc.cell? ⟨gb138, 0, none⟩ = some (.int .i64 a0_0) := (blk_cell BK138.out 0).trans rfl
       have hcz61_1 : wc.cell? ⟨gb138, 1, none⟩ = some (.slice A0_1 l0_1.length c0_1) := (blk_cell BK138.out 1).trans rfl
       have hfz61_0 := blk_frozen BK138.out 0
       have hfz61_1 := blk_frozen BK138.out 1
       have hcz62_0 : wc.cell? ⟨gb139, 0, none⟩ = some (.int .i64 a1_0) := (blk_cell BK139.out 0).trans rfl
       have hcz62_1 : wc.cell? ⟨gb139, 1, none⟩ = some (.slice A1_1 l1_1.length c1_1) := (blk_cell BK139.out 1).trans rfl
       have hfz62_0 := blk_frozen BK139.out 0
       have hfz62_1 := blk_frozen BK139.out 1
       go_upto_region 15 with (first|((with_reducible refine gate_callee (f := 18) rfl ?_);refine goesL_ (some 86) rfl rfl Try.func18 (by kernel_rfl) rfl #[.agg #[.int .i64 a0_0, .slice A0_1 l0_1.length c0_1], .agg #[.int .i64 a1_0, .slice A1_1 l1_1.length c1_1]] rfl (by (try simp only [List.map_toArray, List.map_cons, List.map_nil]);first | done | rfl | (simp only [List.length_drop, List.length_take];rfl)) ?_;(with_reducible refine (galoislaw27_groups.calls kj29 a0_0 _ _ l0_1 a1_0 _ _ l1_1 t161 t164 t167 _ ?side1 ?side2 ?side3 ?side4 A58.out).mono ?_);(case side1 => exact Cst (Kd.C_below HR0_1.out HB.out));(case side2 => exact HC0_1.out);(case side3 => exact Cst (Kd.C_below HR1_1.out HB.out));(case side4 => exact HC1_1.out);rintro e w63 ⟨v162, v165, rfl, ho0, ho1, hb⟩;refine ⟨_, rfl, ?_⟩;have n0_ := Aside0.mk (Kd.N_mono (Kd.N_told (Kd.N_told (Kd.N_old (Nst HO_7.out) hb) (by first | exact Kd.N_base ho0 | exact Kd.S_base ho0 | exact Kd.R_base ho0)) (by first | exact Kd.N_base ho1 | exact Kd.S_base ho1 | exact Kd.R_base ho1)) (fun _ h_ => h_.1));have n1_ := Aside0.mk (Kd.N_lower (Kd.N_mono (ok' := fun k_ => some k_ ≠ (v165 : Value).ownBlock ∧ some k_ ≠ (v149 : Value).ownBlock ∧ k_ ≠ gb138 ∧ k_ ≠ gb139) (Kd.S_N (Kd.S_bound ho0)) (fun k_ hk_ => ⟨hk_.1, (Kd.fresh' (Kd.N_lt (Nst HO_7.out)) k_ hk_.2.1), (Kd.freshB (g := gb138) (o := .cells #[.int .i64 a0_0, .slice A0_1 l0_1.length c0_1] 24 (0, 0)) (blkst BK138.out) k_ hk_.2.1), (Kd.freshB (g := gb139) (o := .cells #[.int .i64 a1_0, .slice A1_1 l1_1.length c1_1] 24 (0, 0)) (blkst BK139.out) k_ hk_.2.1)⟩)) (below_size (bel HB.out)));have n2_ := Aside0.mk (Kd.N_lower (Kd.N_mono (ok' := fun k_ => some k_ ≠ (v162 : Value).ownBlock ∧ some k_ ≠ (v149 : Value).ownBlock ∧ k_ ≠ gb138 ∧ k_ ≠ gb139) (Kd.S_N (Kd.S_bound ho1)) (fun k_ hk_ => ⟨hk_.1, (Kd.fresh' (Kd.N_lt (Nst HO_7.out)) k_ hk_.2.1), (Kd.freshB (g := gb138) (o := .cells #[.int .i64 a0_0, .slice A0_1 l0_1.length c0_1] 24 (0, 0)) (blkst BK138.out) k_ hk_.2.1), (Kd.freshB (g := gb139) (o := .cells #[.int .i64 a1_0, .slice A1_1 l1_1.length c1_1] 24 (0, 0)) (blkst BK139.out) k_ hk_.2.1)⟩)) (below_size (bel HB.out)));have n3_ := Aside0.mk (blk_below (g := gb138) (o := .cells #[.int .i64 a0_0, .slice A0_1 l0_1.length c0_1] 24 (0, 0)) (blkst BK138.out) hb);have n4_ := Aside0.mk (blk_below (g := gb139) (o := .cells #[.int .i64 a1_0, .slice A1_1 l1_1.length c1_1] 24 (0, 0)) (blkst BK139.out) hb);have n5_ := Aside0.mk (below_step (bel HB.out) hb);clear HO_7;clear BK138;clear BK139;clear HB;have HO_7 := n0_;have HO163 := n1_;have HO166 := n2_;have BK138 := n3_;have BK139 := n4_;have HB := n5_;clear n0_ n1_ n2_ n3_ n4_ n5_;(try clear hb);(try clear hb2);(try clear hk);(try clear hi);(try clear ho0);(try clear ho1)))
       (try simp only [Act.put, List.setIfInBounds_toArray, List.set_cons_zero, List.set_cons_succ])
       go_cut [100] (fun v100 wc => ∃ (kq : Nat) (x100_58 : Bool), v100 = .bool x100_58 ∧ Aside0 (galoislaw27_CosetTables.j2 kq t148 t151 t161 t164 t167 x100_58 = some r) ∧ Aside0 (kq ≤ kj29) ∧ Aside0 (Kd.N (Kd.slice 3 (Kd.int .i64)) 42 wc w.heap.size (fun k_ => some k_ ≠ (v162 : Value).ownBlock ∧ some k_ ≠ (v165 : Value).ownBlock ∧ k_ ≠ gb138 ∧ k_ ≠ gb139) v149 t148) ∧ Aside0 (Kd.N (Kd.slice 3 (Kd.int .i64)) 43 wc w.heap.size (fun k_ => some k_ ≠ (v149 : Value).ownBlock ∧ some k_ ≠ (v165 : Value).ownBlock ∧ k_ ≠ gb138 ∧ k_ ≠ gb139) v162 t161) ∧ Aside0 (Kd.N (Kd.slice 3 (Kd.int .i64)) 43 wc w.heap.size (fun k_ => some k_ ≠ (v149 : Value).ownBlock ∧ some k_ ≠ (v162 : Value).ownBlock ∧ k_ ≠ gb138 ∧ k_ ≠ gb139) v165 t164) ∧ Aside0 (wc.heap[gb138]? = some (.cells #[.int .i64 a0_0, (.slice A0_1 l0_1.length c0_1)] 24 (0, 0))) ∧ Aside0 (wc.heap[gb139]? = some (.cells #[.int .i64 a1_0, (.slice A1_1 l1_1.length c1_1)] 24 (0, 0))) ∧ Aside0 (Below w.heap.size w wc))
       case first =>
        have H := HC59.out
        clear HC59
        by_cases c64 : t167 = 0
        ·rw [if_pos c64] at H
         have c64b0 : (t167 == 0) = true := beq_iff_eq.mpr c64
         have c64b1 : (t167 != 0) = false := bne_eq_false_iff_eq.mpr c64
         clear c64
         (first|rw [c64b0] | (simp only [i64_w, i32_w];rw [c64b0]) | skip)
         replace H := Option.bind_eq_some_iff.mp H
         obtain ⟨t168, A650, H⟩ := H
         replace H : (galoislaw27_CosetTables.j2 kj29 t148 t151 t161 t164 t167 (decide ((t168.length : Int) < (t164.length : Int)))) = some r := H
         have A65 := Aside0.mk A650
         clear A650
         have H' := Aside0.mk H
         clear H
         obtain ⟨Ao66, co66, eo66⟩ := Kd.N_slice HO163.out
         subst eo66
         obtain ⟨Ao67, co67, eo67⟩ := Kd.N_slice HO166.out
         subst eo67
         as_aux_lemma =>
          go_wp2_with (first|(go_at_call 19;(with_reducible refine (galoisref27_Core.calls kj29 _ _ t161 (fun k_ => (some k_ ≠ (.slice Ao66 t161.length co66 : Value).ownBlock ∧ (some k_ ≠ (v149 : Value).ownBlock ∧ (k_ ≠ gb138 ∧ k_ ≠ gb139)))) _ _ t164 t168 _ ?side1 ?side2 ?side3 A65.out).mono ?_);(case side1 => repeat (first|exact (Kd.N_reads' HO163.out).2.2 | (with_reducible refine Kd.C_alloc ?_ _) | (with_reducible refine Kd.C_drewN ?_ _) | (with_reducible refine Kd.C_drew ?_)));(case side2 => exact (Kd.N_reads' HO163.out).2.1);(case side3 => exact Kd.N_V (HO166.out));rintro e w68 ⟨v169, rfl, ho0, hb⟩;have n0_ := Aside0.mk (Kd.N_elder' (Nst HO_7.out) (by first | exact Kd.N_base ho0 | exact Kd.S_base ho0 | exact Kd.R_base ho0) hb);have n1_ := Aside0.mk (Kd.N_elder' (Nst HO163.out) (by first | exact Kd.N_base ho0 | exact Kd.S_base ho0 | exact Kd.R_base ho0) hb);have n2_ := Aside0.mk (Kd.N_elder' (Nst HO166.out) (by first | exact Kd.N_base ho0 | exact Kd.S_base ho0 | exact Kd.R_base ho0) hb);have n3_ := Aside0.mk (Kd.N_lower (Kd.N_mono (ok' := fun k_ => some k_ ≠ (v149 : Value).ownBlock ∧ some k_ ≠ (.slice Ao66 t161.length co66 : Value).ownBlock ∧ k_ ≠ gb138 ∧ k_ ≠ gb139) ho0 (fun k_ hk_ => ⟨Or.elim hk_ (fun hs_ => hs_.2.1) (fun hn_ => (Kd.fresh' (Kd.N_lt (Nst HO_7.out)) k_ hn_)), Or.elim hk_ (fun hs_ => hs_.1) (fun hn_ => (Kd.fresh' (Kd.N_lt (Nst HO163.out)) k_ hn_)), Or.elim hk_ (fun hs_ => hs_.2.2.1) (fun hn_ => (Kd.freshB (g := gb138) (o := .cells #[.int .i64 a0_0, .slice A0_1 l0_1.length c0_1] 24 (0, 0)) (blkst BK138.out) k_ hn_)), Or.elim hk_ (fun hs_ => hs_.2.2.2) (fun hn_ => (Kd.freshB (g := gb139) (o := .cells #[.int .i64 a1_0, .slice A1_1 l1_1.length c1_1] 24 (0, 0)) (blkst BK139.out) k_ hn_))⟩)) (below_size (bel HB.out)));have n4_ := Aside0.mk (blk_below (g := gb138) (o := .cells #[.int .i64 a0_0, .slice A0_1 l0_1.length c0_1] 24 (0, 0)) (blkst BK138.out) hb);have n5_ := Aside0.mk (blk_below (g := gb139) (o := .cells #[.int .i64 a1_0, .slice A1_1 l1_1.length c1_1] 24 (0, 0)) (blkst BK139.out) hb);have n6_ := Aside0.mk (below_step (bel HB.out) hb);clear HO_7;clear HO163;clear HO166;clear BK138;clear BK139;clear HB;have HO_7 := n0_;have HO163 := n1_;have HO166 := n2_;have HO170 := n3_;have BK138 := n4_;have BK139 := n5_;have HB := n6_;clear n0_ n1_ n2_ n3_ n4_ n5_ n6_;(try clear hb);(try clear hb2);(try clear hk);(try clear hi);(try clear ho0);obtain ⟨Ao69, co69, eo69⟩ := Kd.N_slice HO170.out;subst eo69))
          go_meet
          case rel => exact ⟨_, (decide ((t168.length : Int) < (t164.length : Int))), (by first | rfl | (simp;done) | (simp [*];done)), H', ⟨by have := HJ2.out;have := HJ29.out;first | omega | exact Nat.le_refl _⟩, ⟨by (with_reducible repeat (first|apply Kd.N_alloc | apply Kd.N_drewN | apply Kd.N_drew));exact Kd.N_mono HO_7.out (fun _ hk => ⟨hk.1.1.2, ⟨hk.1.2, ⟨hk.1.1.1.1, hk.1.1.1.2⟩⟩⟩)⟩, ⟨by (with_reducible repeat (first|apply Kd.N_alloc | apply Kd.N_drewN | apply Kd.N_drew));exact Kd.N_mono HO163.out (fun _ hk => ⟨hk.1.2.1, ⟨hk.1.1, ⟨hk.1.2.2.1, hk.1.2.2.2⟩⟩⟩)⟩, ⟨by (with_reducible repeat (first|apply Kd.N_alloc | apply Kd.N_drewN | apply Kd.N_drew));exact Kd.N_mono HO166.out (fun _ hk => ⟨hk.1.2.1, ⟨hk.1.1, ⟨hk.1.2.2.1, hk.1.2.2.2⟩⟩⟩)⟩, ⟨blkst BK138.out⟩, ⟨blkst BK139.out⟩, ⟨bel HB.out⟩⟩
        ·rw [if_neg c64] at H
         have c64b0 : (t167 == 0) = false := beq_eq_false_iff_ne.mpr c64
         have c64b1 : (t167 != 0) = true := bne_iff_ne.mpr c64
         (first|rw [c64b0] | (simp only [i64_w, i32_w];rw [c64b0]) | skip)
         have H' := Aside0.mk H
         clear H
         as_aux_lemma =>
          go_wp2
          go_meet
          case rel => exact ⟨_, (false), (by first | rfl | (simp;done) | (simp [*];done)), H', ⟨by have := HJ2.out;have := HJ29.out;first | omega | exact Nat.le_refl _⟩, ⟨by (with_reducible repeat (first|apply Kd.N_alloc | apply Kd.N_drewN | apply Kd.N_drew));exact Kd.N_mono HO_7.out (fun _ hk => ⟨hk.1.2, ⟨hk.2, ⟨hk.1.1.1, hk.1.1.2⟩⟩⟩)⟩, ⟨by (with_reducible repeat (first|apply Kd.N_alloc | apply Kd.N_drewN | apply Kd.N_drew));exact Kd.N_mono HO163.out (fun _ hk => ⟨hk.2.1, ⟨hk.1, ⟨hk.2.2.1, hk.2.2.2⟩⟩⟩)⟩, ⟨by (with_reducible repeat (first|apply Kd.N_alloc | apply Kd.N_drewN | apply Kd.N_drew));exact Kd.N_mono HO166.out (fun _ hk => ⟨hk.2.1, ⟨hk.1, ⟨hk.2.2.1, hk.2.2.2⟩⟩⟩)⟩, ⟨blkst BK138.out⟩, ⟨blkst BK139.out⟩, ⟨bel HB.out⟩⟩
       case rest =>
        clear HC59
        try clear c1
        try clear c2
        try clear p2
        try clear c3
        try clear c4
        try clear c5
        try clear c6
        try clear c7
        try clear c9
        try clear c10
        try clear c11
        try clear c12
        try clear c13
        try clear c14
        try clear c15
        try clear c16
        try clear c18
        try clear c22
        try clear c28
        try clear c28b0
        try clear c28b1
        try clear c31
        try clear c42
        try clear c42b0
        try clear c42b1
        try clear c43
        try clear c43b0
        try clear c43b1
        try clear c45
        try clear c45b0
        try clear c45b1
        try clear c48
        try clear c48b0
        try clear c48b1
        try clear c51
        try clear c60
        try clear c64
        try clear c64b0
        try clear c64b1
        try clear hcz12_0
        try clear hcz12_1
        try clear hcz17_0
        try clear hcz17_1
        try clear hcz19_0
        try clear hcz19_1
        try clear hcz32_0
        try clear hcz32_1
        try clear hcz34_0
        try clear hcz34_1
        try clear hcz35_0
        try clear hcz35_1
        try clear hcz37_0
        try clear hcz37_1
        try clear hcz39_0
        try clear hcz39_1
        try clear hcz61_0
        try clear hcz61_1
        try clear hcz62_0
        try clear hcz62_1
        try clear hfz12_0
        try clear hfz12_1
        try clear hfz17_0
        try clear hfz17_1
        try clear hfz19_0
        try clear hfz19_1
        try clear hfz32_0
        try clear hfz32_1
        try clear hfz34_0
        try clear hfz34_1
        try clear hfz35_0
        try clear hfz35_1
        try clear hfz37_0
        try clear hfz37_1
        try clear hfz39_0
        try clear hfz39_1
        try clear hfz61_0
        try clear hfz61_1
        try clear hfz62_0
        try clear hfz62_1
        try clear p2
        obtain ⟨kq, x100_58, rfl, HA, HJ58, HO_7, HO_12, HO_13, BK138, BK139, HB⟩ := hcut
        cases kq with
        | zero => exact absurd HA.out (by simp [galoislaw27_CosetTables.j2])
        | succ kj58 =>
         have H := HA.out
         clear HA
         simp only [galoislaw27_CosetTables.j2] at H
         have HC70 := Aside0.mk H
         clear H
         go_upto_if 100 with (fail)
         go_cut [14] (fun v14 wc => ∃ (kq : Nat) (x14_69 : Int), v14 = .int .i64 x14_69 ∧ Aside0 (galoislaw27_CosetTables.j3 kq t148 t151 t161 t164 x14_69 = some r) ∧ Aside0 (kq ≤ kj58) ∧ Aside0 (Kd.N (Kd.slice 3 (Kd.int .i64)) 42 wc w.heap.size (fun k_ => some k_ ≠ (v162 : Value).ownBlock ∧ some k_ ≠ (v165 : Value).ownBlock ∧ k_ ≠ gb138 ∧ k_ ≠ gb139) v149 t148) ∧ Aside0 (Kd.N (Kd.slice 3 (Kd.int .i64)) 43 wc w.heap.size (fun k_ => some k_ ≠ (v149 : Value).ownBlock ∧ some k_ ≠ (v165 : Value).ownBlock ∧ k_ ≠ gb138 ∧ k_ ≠ gb139) v162 t161) ∧ Aside0 (Kd.N (Kd.slice 3 (Kd.int .i64)) 43 wc w.heap.size (fun k_ => some k_ ≠ (v149 : Value).ownBlock ∧ some k_ ≠ (v162 : Value).ownBlock ∧ k_ ≠ gb138 ∧ k_ ≠ gb139) v165 t164) ∧ Aside0 (wc.heap[gb138]? = some (.cells #[.int .i64 a0_0, (.slice A0_1 l0_1.length c0_1)] 24 (0, 0))) ∧ Aside0 (wc.heap[gb139]? = some (.cells #[.int .i64 a1_0, (.slice A1_1 l1_1.length c1_1)] 24 (0, 0))) ∧ Aside0 (Below w.heap.size w wc))
         case first =>
          have H := HC70.out
          clear HC70
          by_cases c71 : x100_58 = true
          ·subst c71
           have H1 : (galoislaw27_CosetTables.j3 kj58 t148 t151 t161 t164 29) = some r := by rw [if_pos rfl] at H;exact H
           clear H
           have H := H1
           clear H1
           have H' := Aside0.mk H
           clear H
           as_aux_lemma =>
            go_wp2
            go_meet
            case rel => exact ⟨_, (29), (by first | rfl | (simp;done) | (simp [*];done)), H', ⟨by have := HJ2.out;have := HJ29.out;have := HJ58.out;first | omega | exact Nat.le_refl _⟩, ⟨Nst HO_7.out⟩, ⟨Nst HO_12.out⟩, ⟨Nst HO_13.out⟩, ⟨blkst BK138.out⟩, ⟨blkst BK139.out⟩, ⟨bel HB.out⟩⟩
          ·replace c71 := Bool.eq_false_iff.mpr c71
           subst c71
           have H1 : (galoislaw27_CosetTables.j3 kj58 t148 t151 t161 t164 t167) = some r := by rw [if_neg (show ¬ (false = true) by decide)] at H;exact H
           clear H
           have H := H1
           clear H1
           have H' := Aside0.mk H
           clear H
           as_aux_lemma =>
            go_wp2
            go_meet
            case rel => exact ⟨_, (t167), (by first | rfl | (simp;done) | (simp [*];done)), H', ⟨by have := HJ2.out;have := HJ29.out;have := HJ58.out;first | omega | exact Nat.le_refl _⟩, ⟨Nst HO_7.out⟩, ⟨Nst HO_12.out⟩, ⟨Nst HO_13.out⟩, ⟨blkst BK138.out⟩, ⟨blkst BK139.out⟩, ⟨bel HB.out⟩⟩
         case rest =>
          clear HC70
          try clear c1
          try clear c2
          try clear p2
          try clear c3
          try clear c4
          try clear c5
          try clear c6
          try clear c7
          try clear c9
          try clear c10
          try clear c11
          try clear c12
          try clear c13
          try clear c14
          try clear c15
          try clear c16
          try clear c18
          try clear c22
          try clear c28
          try clear c28b0
          try clear c28b1
          try clear c31
          try clear c42
          try clear c42b0
          try clear c42b1
          try clear c43
          try clear c43b0
          try clear c43b1
          try clear c45
          try clear c45b0
          try clear c45b1
          try clear c48
          try clear c48b0
          try clear c48b1
          try clear c51
          try clear c60
          try clear c64
          try clear c64b0
          try clear c64b1
          try clear c71
          try clear hcz12_0
          try clear hcz12_1
          try clear hcz17_0
          try clear hcz17_1
          try clear hcz19_0
          try clear hcz19_1
          try clear hcz32_0
          try clear hcz32_1
          try clear hcz34_0
          try clear hcz34_1
          try clear hcz35_0
          try clear hcz35_1
          try clear hcz37_0
          try clear hcz37_1
          try clear hcz39_0
          try clear hcz39_1
          try clear hcz61_0
          try clear hcz61_1
          try clear hcz62_0
          try clear hcz62_1
          try clear hfz12_0
          try clear hfz12_1
          try clear hfz17_0
          try clear hfz17_1
          try clear hfz19_0
          try clear hfz19_1
          try clear hfz32_0
          try clear hfz32_1
          try clear hfz34_0
          try clear hfz34_1
          try clear hfz35_0
          try clear hfz35_1
          try clear hfz37_0
          try clear hfz37_1
          try clear hfz39_0
          try clear hfz39_1
          try clear hfz61_0
          try clear hfz61_1
          try clear hfz62_0
          try clear hfz62_1
          try clear p2
          obtain ⟨kq, x14_69, rfl, HA, HJ69, HO_7, HO_12, HO_13, BK138, BK139, HB⟩ := hcut
          cases kq with
          | zero => exact absurd HA.out (by simp [galoislaw27_CosetTables.j3])
          | succ kj69 =>
           have H := HA.out
           clear HA
           simp only [galoislaw27_CosetTables.j3] at H
           have HC72 := Aside0.mk H
           clear H
           go_upto_region 17 with (fail)
           go_cut [110] (fun v110 wc => ∃ (kq : Nat) (x110_71 : Bool), v110 = .bool x110_71 ∧ Aside0 (galoislaw27_CosetTables.j4 kq t148 t151 t161 t164 x14_69 x110_71 = some r) ∧ Aside0 (kq ≤ kj69) ∧ Aside0 (Kd.N (Kd.slice 3 (Kd.int .i64)) 42 wc w.heap.size (fun k_ => some k_ ≠ (v162 : Value).ownBlock ∧ some k_ ≠ (v165 : Value).ownBlock ∧ k_ ≠ gb138 ∧ k_ ≠ gb139) v149 t148) ∧ Aside0 (Kd.N (Kd.slice 3 (Kd.int .i64)) 43 wc w.heap.size (fun k_ => some k_ ≠ (v149 : Value).ownBlock ∧ some k_ ≠ (v165 : Value).ownBlock ∧ k_ ≠ gb138 ∧ k_ ≠ gb139) v162 t161) ∧ Aside0 (Kd.N (Kd.slice 3 (Kd.int .i64)) 43 wc w.heap.size (fun k_ => some k_ ≠ (v149 : Value).ownBlock ∧ some k_ ≠ (v162 : Value).ownBlock ∧ k_ ≠ gb138 ∧ k_ ≠ gb139) v165 t164) ∧ Aside0 (wc.heap[gb138]? = some (.cells #[.int .i64 a0_0, (.slice A0_1 l0_1.length c0_1)] 24 (0, 0))) ∧ Aside0 (wc.heap[gb139]? = some (.cells #[.int .i64 a1_0, (.slice A1_1 l1_1.length c1_1)] 24 (0, 0))) ∧ Aside0 (Below w.heap.size w wc))
           case first =>
            have H := HC72.out
            clear HC72
            by_cases c73 : x14_69 = 0
            ·rw [if_pos c73] at H
             have c73b0 : (x14_69 == 0) = true := beq_iff_eq.mpr c73
             have c73b1 : (x14_69 != 0) = false := bne_eq_false_iff_eq.mpr c73
             clear c73
             (first|rw [c73b0] | (simp only [i64_w, i32_w];rw [c73b0]) | skip)
             by_cases c74 : (t164.length : Int) = 0
             ·rw [if_pos c74] at H
              exact absurd H (by simp)
             ·rw [if_neg c74] at H
              have c74b0 : ((t164.length : Int) == 0) = false := beq_eq_false_iff_ne.mpr c74
              have c74b1 : ((t164.length : Int) != 0) = true := bne_iff_ne.mpr c74
              have c74b2 : ¬ (t164 = []) := fun h_ => c74 (by rw [h_];rfl)
              have H' := Aside0.mk H
              clear H
              obtain ⟨Ao75, co75, eo75⟩ := Kd.N_slice HO_12.out
              subst eo75
              obtain ⟨Ao76, co76, eo76⟩ := Kd.N_slice HO_13.out
              subst eo76
              as_aux_lemma =>
               go_wp2
               go_meet
               case rel => exact ⟨_, (decide ((wrap64 ((t161.length : Int) / (t164.length : Int))) > 120)), (by first | rfl | (simp;done) | (simp [*];done)), H', ⟨by have := HJ2.out;have := HJ29.out;have := HJ58.out;have := HJ69.out;first | omega | exact Nat.le_refl _⟩, ⟨Nst HO_7.out⟩, ⟨Nst HO_12.out⟩, ⟨Nst HO_13.out⟩, ⟨blkst BK138.out⟩, ⟨blkst BK139.out⟩, ⟨bel HB.out⟩⟩
            ·rw [if_neg c73] at H
             have c73b0 : (x14_69 == 0) = false := beq_eq_false_iff_ne.mpr c73
             have c73b1 : (x14_69 != 0) = true := bne_iff_ne.mpr c73
             (first|rw [c73b0] | (simp only [i64_w, i32_w];rw [c73b0]) | skip)
             have H' := Aside0.mk H
             clear H
             as_aux_lemma =>
              go_wp2
              go_meet
              case rel => exact ⟨_, (false), (by first | rfl | (simp;done) | (simp [*];done)), H', ⟨by have := HJ2.out;have := HJ29.out;have := HJ58.out;have := HJ69.out;first | omega | exact Nat.le_refl _⟩, ⟨Nst HO_7.out⟩, ⟨Nst HO_12.out⟩, ⟨Nst HO_13.out⟩, ⟨blkst BK138.out⟩, ⟨blkst BK139.out⟩, ⟨bel HB.out⟩⟩
           case rest =>
            clear HC72
            try clear c1
            try clear c2
            try clear p2
            try clear c3
            try clear c4
            try clear c5
            try clear c6
            try clear p6
            try clear c7
            try clear c9
            try clear c10
            try clear c11
            try clear c12
            try clear c13
            try clear c14
            try clear c15
            try clear c16
            try clear c18
            try clear c22
            try clear c28
            try clear c28b0
            try clear c28b1
            try clear c31
            try clear c42
            try clear c42b0
            try clear c42b1
            try clear c43
            try clear c43b0
            try clear c43b1
            try clear c45
            try clear c45b0
            try clear c45b1
            try clear c48
            try clear c48b0
            try clear c48b1
            try clear c51
            try clear c60
            try clear c64
            try clear c64b0
            try clear c64b1
            try clear p64
            try clear c71
            try clear c73
            try clear c73b0
            try clear c73b1
            try clear c74
            try clear c74b0
            try clear c74b1
            try clear c74b2
            try clear hcz12_0
            try clear hcz12_1
            try clear hcz17_0
            try clear hcz17_1
            try clear hcz19_0
            try clear hcz19_1
            try clear hcz32_0
            try clear hcz32_1
            try clear hcz34_0
            try clear hcz34_1
            try clear hcz35_0
            try clear hcz35_1
            try clear hcz37_0
            try clear hcz37_1
            try clear hcz39_0
            try clear hcz39_1
            try clear hcz61_0
            try clear hcz61_1
            try clear hcz62_0
            try clear hcz62_1
            try clear hfz12_0
            try clear hfz12_1
            try clear hfz17_0
            try clear hfz17_1
            try clear hfz19_0
            try clear hfz19_1
            try clear hfz32_0
            try clear hfz32_1
            try clear hfz34_0
            try clear hfz34_1
            try clear hfz35_0
            try clear hfz35_1
            try clear hfz37_0
            try clear hfz37_1
            try clear hfz39_0
            try clear hfz39_1
            try clear hfz61_0
            try clear hfz61_1
            try clear hfz62_0
            try clear hfz62_1
            try clear p2
            obtain ⟨kq, x110_71, rfl, HA, HJ71, HO_7, HO_12, HO_13, BK138, BK139, HB⟩ := hcut
            cases kq with
            | zero => exact absurd HA.out (by simp [galoislaw27_CosetTables.j4])
            | succ kj71 =>
             have H := HA.out
             clear HA
             simp only [galoislaw27_CosetTables.j4] at H
             have HC77 := Aside0.mk H
             clear H
             go_upto_if 110 with (fail)
             go_cut [14] (fun v14 wc => ∃ (kq : Nat) (x14_76 : Int), v14 = .int .i64 x14_76 ∧ Aside0 (galoislaw27_CosetTables.j5 kq t148 t151 t161 t164 x14_76 = some r) ∧ Aside0 (kq ≤ kj71) ∧ Aside0 (Kd.N (Kd.slice 3 (Kd.int .i64)) 42 wc w.heap.size (fun k_ => some k_ ≠ (v162 : Value).ownBlock ∧ some k_ ≠ (v165 : Value).ownBlock ∧ k_ ≠ gb138 ∧ k_ ≠ gb139) v149 t148) ∧ Aside0 (Kd.N (Kd.slice 3 (Kd.int .i64)) 43 wc w.heap.size (fun k_ => some k_ ≠ (v149 : Value).ownBlock ∧ some k_ ≠ (v165 : Value).ownBlock ∧ k_ ≠ gb138 ∧ k_ ≠ gb139) v162 t161) ∧ Aside0 (Kd.N (Kd.slice 3 (Kd.int .i64)) 43 wc w.heap.size (fun k_ => some k_ ≠ (v149 : Value).ownBlock ∧ some k_ ≠ (v162 : Value).ownBlock ∧ k_ ≠ gb138 ∧ k_ ≠ gb139) v165 t164) ∧ Aside0 (wc.heap[gb138]? = some (.cells #[.int .i64 a0_0, (.slice A0_1 l0_1.length c0_1)] 24 (0, 0))) ∧ Aside0 (wc.heap[gb139]? = some (.cells #[.int .i64 a1_0, (.slice A1_1 l1_1.length c1_1)] 24 (0, 0))) ∧ Aside0 (Below w.heap.size w wc))
             case first =>
              have H := HC77.out
              clear HC77
              by_cases c78 : x110_71 = true
              ·subst c78
               have H1 : (galoislaw27_CosetTables.j5 kj71 t148 t151 t161 t164 4) = some r := by rw [if_pos rfl] at H;exact H
               clear H
               have H := H1
               clear H1
               have H' := Aside0.mk H
               clear H
               as_aux_lemma =>
                go_wp2
                go_meet
                case rel => exact ⟨_, (4), (by first | rfl | (simp;done) | (simp [*];done)), H', ⟨by have := HJ2.out;have := HJ29.out;have := HJ58.out;have := HJ69.out;have := HJ71.out;first | omega | exact Nat.le_refl _⟩, ⟨Nst HO_7.out⟩, ⟨Nst HO_12.out⟩, ⟨Nst HO_13.out⟩, ⟨blkst BK138.out⟩, ⟨blkst BK139.out⟩, ⟨bel HB.out⟩⟩
              ·replace c78 := Bool.eq_false_iff.mpr c78
               subst c78
               have H1 : (galoislaw27_CosetTables.j5 kj71 t148 t151 t161 t164 x14_69) = some r := by rw [if_neg (show ¬ (false = true) by decide)] at H;exact H
               clear H
               have H := H1
               clear H1
               have H' := Aside0.mk H
               clear H
               as_aux_lemma =>
                go_wp2
                go_meet
                case rel => exact ⟨_, (x14_69), (by first | rfl | (simp;done) | (simp [*];done)), H', ⟨by have := HJ2.out;have := HJ29.out;have := HJ58.out;have := HJ69.out;have := HJ71.out;first | omega | exact Nat.le_refl _⟩, ⟨Nst HO_7.out⟩, ⟨Nst HO_12.out⟩, ⟨Nst HO_13.out⟩, ⟨blkst BK138.out⟩, ⟨blkst BK139.out⟩, ⟨bel HB.out⟩⟩
             case rest =>
              clear HC77
              try clear c1
              try clear c2
              try clear p2
              try clear c3
              try clear c4
              try clear c5
              try clear c6
              try clear p6
              try clear c7
              try clear c9
              try clear c10
              try clear c11
              try clear c12
              try clear c13
              try clear c14
              try clear c15
              try clear c16
              try clear c18
              try clear c22
              try clear c28
              try clear c28b0
              try clear c28b1
              try clear c31
              try clear c42
              try clear c42b0
              try clear c42b1
              try clear c43
              try clear c43b0
              try clear c43b1
              try clear c45
              try clear c45b0
              try clear c45b1
              try clear c48
              try clear c48b0
              try clear c48b1
              try clear c51
              try clear c60
              try clear c64
              try clear c64b0
              try clear c64b1
              try clear p64
              try clear c71
              try clear c73
              try clear c73b0
              try clear c73b1
              try clear c74
              try clear c74b0
              try clear c74b1
              try clear c74b2
              try clear c78
              try clear hcz12_0
              try clear hcz12_1
              try clear hcz17_0
              try clear hcz17_1
              try clear hcz19_0
              try clear hcz19_1
              try clear hcz32_0
              try clear hcz32_1
              try clear hcz34_0
              try clear hcz34_1
              try clear hcz35_0
              try clear hcz35_1
              try clear hcz37_0
              try clear hcz37_1
              try clear hcz39_0
              try clear hcz39_1
              try clear hcz61_0
              try clear hcz61_1
              try clear hcz62_0
              try clear hcz62_1
              try clear hfz12_0
              try clear hfz12_1
              try clear hfz17_0
              try clear hfz17_1
              try clear hfz19_0
              try clear hfz19_1
              try clear hfz32_0
              try clear hfz32_1
              try clear hfz34_0
              try clear hfz34_1
              try clear hfz35_0
              try clear hfz35_1
              try clear hfz37_0
              try clear hfz37_1
              try clear hfz39_0
              try clear hfz39_1
              try clear hfz61_0
              try clear hfz61_1
              try clear hfz62_0
              try clear hfz62_1
              try clear p2
              try clear p6
              try clear p64
              obtain ⟨kq, x14_76, rfl, HA, HJ76, HO_7, HO_12, HO_13, BK138, BK139, HB⟩ := hcut
              cases kq with
              | zero => exact absurd HA.out (by simp [galoislaw27_CosetTables.j5])
              | succ kj76 =>
               have H := HA.out
               clear HA
               simp only [galoislaw27_CosetTables.j5] at H
               by_cases c79 : x14_76 = 0
               ·rw [if_pos c79] at H
                have c79b0 : (x14_76 == 0) = true := beq_iff_eq.mpr c79
                have c79b1 : (x14_76 != 0) = false := bne_eq_false_iff_eq.mpr c79
                clear c79
                by_cases c80 : t151 = 0
                ·rw [if_pos c80] at H
                 have c80b0 : (t151 == 0) = true := beq_iff_eq.mpr c80
                 have c80b1 : (t151 != 0) = false := bne_eq_false_iff_eq.mpr c80
                 clear c80
                 replace H := Option.bind_eq_some_iff.mp H
                 obtain ⟨t171, A810, H⟩ := H
                 replace H : ((galoisref22_SameLists.f kj76 t148 t171).bind fun t174 => (some t174)) = some r := H
                 have A81 := Aside0.mk A810
                 clear A810
                 replace H := Option.bind_eq_some_iff.mp H
                 obtain ⟨t174, A820, H⟩ := H
                 replace H : (some t174) = some r := H
                 have A82 := Aside0.mk A820
                 clear A820
                 obtain rfl := Option.some.inj H
                 obtain ⟨Ao83, co83, eo83⟩ := Kd.N_slice HO_12.out
                 subst eo83
                 obtain ⟨Ao84, co84, eo84⟩ := Kd.N_slice HO_13.out
                 subst eo84
                 as_aux_lemma =>
                  go_wp2_with (first|(go_at_call 20;(with_reducible refine (galoisref27_Quotient.calls kj76 (fun k_ => (some k_ ≠ (v149 : Value).ownBlock ∧ (some k_ ≠ (.slice Ao84 t164.length co84 : Value).ownBlock ∧ (k_ ≠ gb138 ∧ k_ ≠ gb139)))) _ _ t161 _ _ t164 t171 _ ?side1 ?side2 ?side3 A81.out).mono ?_);(case side1 => exact Kd.N_V (HO_12.out));(case side2 => repeat (first|exact (Kd.N_reads' HO_13.out).2.2 | (with_reducible refine Kd.C_alloc ?_ _) | (with_reducible refine Kd.C_drewN ?_ _) | (with_reducible refine Kd.C_drew ?_)));(case side3 => exact (Kd.N_reads' HO_13.out).2.1);rintro e w85 ⟨v172, rfl, ho0, hb⟩;have n0_ := Aside0.mk (Kd.N_elder' (Nst HO_7.out) (by first | exact Kd.N_base ho0 | exact Kd.S_base ho0 | exact Kd.R_base ho0) hb);have n1_ := Aside0.mk (Kd.N_elder' (Nst HO_12.out) (by first | exact Kd.N_base ho0 | exact Kd.S_base ho0 | exact Kd.R_base ho0) hb);have n2_ := Aside0.mk (Kd.N_elder' (Nst HO_13.out) (by first | exact Kd.N_base ho0 | exact Kd.S_base ho0 | exact Kd.R_base ho0) hb);have n3_ := Aside0.mk (Kd.N_lower (Kd.N_mono (ok' := fun k_ => some k_ ≠ (v149 : Value).ownBlock ∧ some k_ ≠ (.slice Ao84 t164.length co84 : Value).ownBlock ∧ k_ ≠ gb138 ∧ k_ ≠ gb139) ho0 (fun k_ hk_ => ⟨Or.elim hk_ (fun hs_ => hs_.1) (fun hn_ => (Kd.fresh' (Kd.N_lt (Nst HO_7.out)) k_ hn_)), Or.elim hk_ (fun hs_ => hs_.2.1) (fun hn_ => (Kd.fresh' (Kd.N_lt (Nst HO_13.out)) k_ hn_)), Or.elim hk_ (fun hs_ => hs_.2.2.1) (fun hn_ => (Kd.freshB (g := gb138) (o := .cells #[.int .i64 a0_0, .slice A0_1 l0_1.length c0_1] 24 (0, 0)) (blkst BK138.out) k_ hn_)), Or.elim hk_ (fun hs_ => hs_.2.2.2) (fun hn_ => (Kd.freshB (g := gb139) (o := .cells #[.int .i64 a1_0, .slice A1_1 l1_1.length c1_1] 24 (0, 0)) (blkst BK139.out) k_ hn_))⟩)) (below_size (bel HB.out)));have n4_ := Aside0.mk (blk_below (g := gb138) (o := .cells #[.int .i64 a0_0, .slice A0_1 l0_1.length c0_1] 24 (0, 0)) (blkst BK138.out) hb);have n5_ := Aside0.mk (blk_below (g := gb139) (o := .cells #[.int .i64 a1_0, .slice A1_1 l1_1.length c1_1] 24 (0, 0)) (blkst BK139.out) hb);have n6_ := Aside0.mk (below_step (bel HB.out) hb);clear HO_7;clear HO_12;clear HO_13;clear BK138;clear BK139;clear HB;have HO_7 := n0_;have HO_12 := n1_;have HO_13 := n2_;have HO173 := n3_;have BK138 := n4_;have BK139 := n5_;have HB := n6_;clear n0_ n1_ n2_ n3_ n4_ n5_ n6_;(try clear hb);(try clear hb2);(try clear hk);(try clear hi);(try clear ho0);obtain ⟨Ao86, co86, eo86⟩ := Kd.N_slice HO_7.out;subst eo86;obtain ⟨Ao87, co87, eo87⟩ := Kd.N_slice HO173.out;subst eo87) | (go_at_call 16;(with_reducible refine (galoisref22_SameLists.calls kj76 _ _ t148 _ _ t171 t174 _ ?side1 ?side2 ?side3 ?side4 A82.out).mono ?_);(case side1 => repeat (first|exact (Kd.N_reads' HO_7.out).2.2 | (with_reducible refine Kd.C_alloc ?_ _) | (with_reducible refine Kd.C_drewN ?_ _) | (with_reducible refine Kd.C_drew ?_)));(case side2 => exact (Kd.N_reads' HO_7.out).2.1);(case side3 => repeat (first|exact (Kd.N_reads' HO173.out).2.2 | (with_reducible refine Kd.C_alloc ?_ _) | (with_reducible refine Kd.C_drewN ?_ _) | (with_reducible refine Kd.C_drew ?_)));(case side4 => exact (Kd.N_reads' HO173.out).2.1);rintro e w' ⟨rfl, ⟨nd, rfl⟩⟩))
                  go_ret
                  exact ⟨by first | rfl | (simp [errW_none, errW_some] <;> rfl) | (simp [*, errW_none, errW_some] <;> rfl), bel HB.out⟩
                ·rw [if_neg c80] at H
                 have c80b0 : (t151 == 0) = false := beq_eq_false_iff_ne.mpr c80
                 have c80b1 : (t151 != 0) = true := bne_iff_ne.mpr c80
                 obtain rfl := Option.some.inj H
                 as_aux_lemma =>
                  go_wp2
                  go_ret
                  exact ⟨by first | rfl | (simp [errW_none, errW_some] <;> rfl) | (simp [*, errW_none, errW_some] <;> rfl), bel HB.out⟩
               ·rw [if_neg c79] at H
                have c79b0 : (x14_76 == 0) = false := beq_eq_false_iff_ne.mpr c79
                have c79b1 : (x14_76 != 0) = true := bne_iff_ne.mpr c79
                by_cases c88 : (t148.length : Int) = 0
                ·rw [if_pos c88] at H
                 have c88b0 : ((t148.length : Int) == 0) = true := beq_iff_eq.mpr c88
                 have c88b1 : ((t148.length : Int) != 0) = false := bne_eq_false_iff_eq.mpr c88
                 clear c88
                 obtain rfl := Option.some.inj H
                 obtain ⟨Ao89, co89, eo89⟩ := Kd.N_slice HO_7.out
                 subst eo89
                 as_aux_lemma =>
                  go_wp2
                  go_ret
                  exact ⟨by first | rfl | (simp [errW_none, errW_some] <;> rfl) | (simp [*, errW_none, errW_some] <;> rfl), bel HB.out⟩
                ·rw [if_neg c88] at H
                 have c88b0 : ((t148.length : Int) == 0) = false := beq_eq_false_iff_ne.mpr c88
                 have c88b1 : ((t148.length : Int) != 0) = true := bne_iff_ne.mpr c88
                 have c88b2 : ¬ (t148 = []) := fun h_ => c88 (by rw [h_];rfl)
                 obtain rfl := Option.some.inj H
                 obtain ⟨Ao90, co90, eo90⟩ := Kd.N_slice HO_7.out
                 subst eo90
                 as_aux_lemma =>
                  go_wp2
                  go_ret
                  exact ⟨by first | rfl | (simp [errW_none, errW_some] <;> rfl) | (simp [*, errW_none, errW_some] <;> rfl), bel HB.out⟩
    ·rw [if_neg c28] at H
     have c28b0 : (t152 == 0) = false := beq_eq_false_iff_ne.mpr c28
     have c28b1 : (t152 != 0) = true := bne_iff_ne.mpr c28
     by_cases c91 : (t144.length : Int) = 0
     ·rw [if_pos c91] at H
      have c91b0 : ((t144.length : Int) == 0) = true := beq_iff_eq.mpr c91
      have c91b1 : ((t144.length : Int) != 0) = false := bne_eq_false_iff_eq.mpr c91
      clear c91
      by_cases c92 : t147 = t152
      ·rw [if_pos c92] at H
       have c92b0 : (t147 == t152) = true := beq_iff_eq.mpr c92
       have c92b1 : (t147 != t152) = false := bne_eq_false_iff_eq.mpr c92
       clear c92
       by_cases c93 : (t148.length : Int) = 0
       ·rw [if_pos c93] at H
        have c93b0 : ((t148.length : Int) == 0) = true := beq_iff_eq.mpr c93
        have c93b1 : ((t148.length : Int) != 0) = false := bne_eq_false_iff_eq.mpr c93
        clear c93
        obtain rfl := Option.some.inj H
        have hnb94 := NB138_139.out
        have hnc94 := NB139_138.out
        have hcz95_0 : wc.cell? ⟨gb138, 0, none⟩ = some (.int .i64 a0_0) := (blk_cell BK138.out 0).trans rfl
        have hcz95_1 : wc.cell? ⟨gb138, 1, none⟩ = some (.slice A0_1 l0_1.length c0_1) := (blk_cell BK138.out 1).trans rfl
        have hfz95_0 := blk_frozen BK138.out 0
        have hfz95_1 := blk_frozen BK138.out 1
        as_aux_lemma =>
         go_wp2_with (first|((with_reducible refine gate_callee (f := 12) rfl ?_);refine goesL_ (some 28) rfl rfl Try.func12 (by kernel_rfl) rfl #[.agg #[.int .i64 a0_0, .slice A0_1 l0_1.length c0_1]] rfl (by (try simp only [List.map_toArray, List.map_cons, List.map_nil]);first | done | rfl | (simp only [List.length_drop, List.length_take];rfl)) ?_;(with_reducible refine (coset_Table.calls kj2 a0_0 _ _ l0_1 t144 t147 _ ?side1 ?side2 A25.out).mono ?_);(case side1 => exact Cst (Kd.C_below HR0_1.out HB.out));(case side2 => exact HC0_1.out);rintro e w96 ⟨v145, rfl, ho0, hb⟩;refine ⟨_, rfl, ?_⟩;have n0_ := Aside0.mk (Kd.N_lower (Kd.N_mono (ok' := fun k_ => k_ ≠ gb138 ∧ k_ ≠ gb139) (Kd.S_N (Kd.S_bound ho0)) (fun k_ hk_ => ⟨(Kd.freshB (g := gb138) (o := .cells #[.int .i64 a0_0, .slice A0_1 l0_1.length c0_1] 24 (0, 0)) (blkst BK138.out) k_ hk_.2.1), (Kd.freshB (g := gb139) (o := .cells #[.int .i64 a1_0, .slice A1_1 l1_1.length c1_1] 24 (0, 0)) (blkst BK139.out) k_ hk_.2.1)⟩)) (below_size (bel HB.out)));have n1_ := Aside0.mk (blk_below (g := gb138) (o := .cells #[.int .i64 a0_0, .slice A0_1 l0_1.length c0_1] 24 (0, 0)) (blkst BK138.out) hb);have n2_ := Aside0.mk (blk_below (g := gb139) (o := .cells #[.int .i64 a1_0, .slice A1_1 l1_1.length c1_1] 24 (0, 0)) (blkst BK139.out) hb);have n3_ := Aside0.mk (below_step (bel HB.out) hb);clear BK138;clear BK139;clear HB;have HO146 := n0_;have BK138 := n1_;have BK139 := n2_;have HB := n3_;clear n0_ n1_ n2_ n3_;(try clear hb);(try clear hb2);(try clear hk);(try clear hi);(try clear ho0);have hcz97_0 : w96.cell? ⟨gb138, 0, none⟩ = some (.int .i64 a0_0) := (blk_cell BK138.out 0).trans rfl;have hcz97_1 : w96.cell? ⟨gb138, 1, none⟩ = some (.slice A0_1 l0_1.length c0_1) := (blk_cell BK138.out 1).trans rfl;have hfz97_0 := blk_frozen BK138.out 0;have hfz97_1 := blk_frozen BK138.out 1;have hcz98_0 : w96.cell? ⟨gb139, 0, none⟩ = some (.int .i64 a1_0) := (blk_cell BK139.out 0).trans rfl;have hcz98_1 : w96.cell? ⟨gb139, 1, none⟩ = some (.slice A1_1 l1_1.length c1_1) := (blk_cell BK139.out 1).trans rfl;have hfz98_0 := blk_frozen BK139.out 0;have hfz98_1 := blk_frozen BK139.out 1) | ((with_reducible refine gate_callee (f := 13) rfl ?_);refine goesL_ (some 34) rfl rfl Try.func13 (by kernel_rfl) rfl #[.agg #[.int .i64 a0_0, .slice A0_1 l0_1.length c0_1], .agg #[.int .i64 a1_0, .slice A1_1 l1_1.length c1_1]] rfl (by (try simp only [List.map_toArray, List.map_cons, List.map_nil]);first | done | rfl | (simp only [List.length_drop, List.length_take];rfl)) ?_;(with_reducible refine (coset_Quotient.calls kj2 a0_0 _ _ l0_1 a1_0 _ _ l1_1 t148 t151 _ ?side1 ?side2 ?side3 ?side4 A26.out).mono ?_);(case side1 => exact Cst (Kd.C_below HR0_1.out HB.out));(case side2 => exact HC0_1.out);(case side3 => exact Cst (Kd.C_below HR1_1.out HB.out));(case side4 => exact HC1_1.out);rintro e w99 ⟨v149, rfl, ho0, hb⟩;refine ⟨_, rfl, ?_⟩;have n0_ := Aside0.mk (Kd.N_elder' (Nst HO146.out) (by first | exact Kd.N_base ho0 | exact Kd.S_base ho0 | exact Kd.R_base ho0) hb);have n1_ := Aside0.mk (Kd.N_lower (Kd.N_mono (ok' := fun k_ => some k_ ≠ (v145 : Value).ownBlock ∧ k_ ≠ gb138 ∧ k_ ≠ gb139) (Kd.S_N (Kd.S_bound ho0)) (fun k_ hk_ => ⟨(Kd.fresh' (Kd.N_lt (Nst HO146.out)) k_ hk_.2.1), (Kd.freshB (g := gb138) (o := .cells #[.int .i64 a0_0, .slice A0_1 l0_1.length c0_1] 24 (0, 0)) (blkst BK138.out) k_ hk_.2.1), (Kd.freshB (g := gb139) (o := .cells #[.int .i64 a1_0, .slice A1_1 l1_1.length c1_1] 24 (0, 0)) (blkst BK139.out) k_ hk_.2.1)⟩)) (below_size (bel HB.out)));have n2_ := Aside0.mk (blk_below (g := gb138) (o := .cells #[.int .i64 a0_0, .slice A0_1 l0_1.length c0_1] 24 (0, 0)) (blkst BK138.out) hb);have n3_ := Aside0.mk (blk_below (g := gb139) (o := .cells #[.int .i64 a1_0, .slice A1_1 l1_1.length c1_1] 24 (0, 0)) (blkst BK139.out) hb);have n4_ := Aside0.mk (below_step (bel HB.out) hb);clear HO146;clear BK138;clear BK139;clear HB;have HO146 := n0_;have HO150 := n1_;have BK138 := n2_;have BK139 := n3_;have HB := n4_;clear n0_ n1_ n2_ n3_ n4_;(try clear hb);(try clear hb2);(try clear hk);(try clear hi);(try clear ho0);have hcz100_0 : w99.cell? ⟨gb138, 0, none⟩ = some (.int .i64 a0_0) := (blk_cell BK138.out 0).trans rfl;have hcz100_1 : w99.cell? ⟨gb138, 1, none⟩ = some (.slice A0_1 l0_1.length c0_1) := (blk_cell BK138.out 1).trans rfl;have hfz100_0 := blk_frozen BK138.out 0;have hfz100_1 := blk_frozen BK138.out 1) | ((with_reducible refine gate_callee (f := 14) rfl ?_);refine goesL_ (some 38) rfl rfl Try.func14 (by kernel_rfl) rfl #[.agg #[.int .i64 a0_0, .slice A0_1 l0_1.length c0_1]] rfl (by (try simp only [List.map_toArray, List.map_cons, List.map_nil]);first | done | rfl | (simp only [List.length_drop, List.length_take];rfl)) ?_;(with_reducible refine (galoisref23_Check.calls kj2 a0_0 _ _ l0_1 t152 _ ?side1 ?side2 A27.out).mono ?_);(case side1 => exact Cst (Kd.C_below HR0_1.out HB.out));(case side2 => exact HC0_1.out);rintro e w101 ⟨rfl, hb⟩;refine ⟨_, rfl, ?_⟩;have n0_ := Aside0.mk (Kd.N_below (Nst HO146.out) hb);have n1_ := Aside0.mk (Kd.N_below (Nst HO150.out) hb);have n2_ := Aside0.mk (blk_below (g := gb138) (o := .cells #[.int .i64 a0_0, .slice A0_1 l0_1.length c0_1] 24 (0, 0)) (blkst BK138.out) hb);have n3_ := Aside0.mk (blk_below (g := gb139) (o := .cells #[.int .i64 a1_0, .slice A1_1 l1_1.length c1_1] 24 (0, 0)) (blkst BK139.out) hb);have n4_ := Aside0.mk (below_step (bel HB.out) hb);clear HO146;clear HO150;clear BK138;clear BK139;clear HB;have HO146 := n0_;have HO150 := n1_;have BK138 := n2_;have BK139 := n3_;have HB := n4_;clear n0_ n1_ n2_ n3_ n4_;(try clear hb);(try clear hb2);(try clear hk);(try clear hi);obtain ⟨Ao102, co102, eo102⟩ := Kd.N_slice HO146.out;subst eo102;obtain ⟨Ao103, co103, eo103⟩ := Kd.N_slice HO150.out;subst eo103))
         go_ret
         exact ⟨by first | rfl | (simp [errW_none, errW_some] <;> rfl) | (simp [*, errW_none, errW_some] <;> rfl), bel HB.out⟩
       ·rw [if_neg c93] at H
        have c93b0 : ((t148.length : Int) == 0) = false := beq_eq_false_iff_ne.mpr c93
        have c93b1 : ((t148.length : Int) != 0) = true := bne_iff_ne.mpr c93
        have c93b2 : ¬ (t148 = []) := fun h_ => c93 (by rw [h_];rfl)
        obtain rfl := Option.some.inj H
        have hnb104 := NB138_139.out
        have hnc104 := NB139_138.out
        have hcz105_0 : wc.cell? ⟨gb138, 0, none⟩ = some (.int .i64 a0_0) := (blk_cell BK138.out 0).trans rfl
        have hcz105_1 : wc.cell? ⟨gb138, 1, none⟩ = some (.slice A0_1 l0_1.length c0_1) := (blk_cell BK138.out 1).trans rfl
        have hfz105_0 := blk_frozen BK138.out 0
        have hfz105_1 := blk_frozen BK138.out 1
        as_aux_lemma =>
         go_wp2_with (first|((with_reducible refine gate_callee (f := 12) rfl ?_);refine goesL_ (some 28) rfl rfl Try.func12 (by kernel_rfl) rfl #[.agg #[.int .i64 a0_0, .slice A0_1 l0_1.length c0_1]] rfl (by (try simp only [List.map_toArray, List.map_cons, List.map_nil]);first | done | rfl | (simp only [List.length_drop, List.length_take];rfl)) ?_;(with_reducible refine (coset_Table.calls kj2 a0_0 _ _ l0_1 t144 t147 _ ?side1 ?side2 A25.out).mono ?_);(case side1 => exact Cst (Kd.C_below HR0_1.out HB.out));(case side2 => exact HC0_1.out);rintro e w106 ⟨v145, rfl, ho0, hb⟩;refine ⟨_, rfl, ?_⟩;have n0_ := Aside0.mk (Kd.N_lower (Kd.N_mono (ok' := fun k_ => k_ ≠ gb138 ∧ k_ ≠ gb139) (Kd.S_N (Kd.S_bound ho0)) (fun k_ hk_ => ⟨(Kd.freshB (g := gb138) (o := .cells #[.int .i64 a0_0, .slice A0_1 l0_1.length c0_1] 24 (0, 0)) (blkst BK138.out) k_ hk_.2.1), (Kd.freshB (g := gb139) (o := .cells #[.int .i64 a1_0, .slice A1_1 l1_1.length c1_1] 24 (0, 0)) (blkst BK139.out) k_ hk_.2.1)⟩)) (below_size (bel HB.out)));have n1_ := Aside0.mk (blk_below (g := gb138) (o := .cells #[.int .i64 a0_0, .slice A0_1 l0_1.length c0_1] 24 (0, 0)) (blkst BK138.out) hb);have n2_ := Aside0.mk (blk_below (g := gb139) (o := .cells #[.int .i64 a1_0, .slice A1_1 l1_1.length c1_1] 24 (0, 0)) (blkst BK139.out) hb);have n3_ := Aside0.mk (below_step (bel HB.out) hb);clear BK138;clear BK139;clear HB;have HO146 := n0_;have BK138 := n1_;have BK139 := n2_;have HB := n3_;clear n0_ n1_ n2_ n3_;(try clear hb);(try clear hb2);(try clear hk);(try clear hi);(try clear ho0);have hcz107_0 : w106.cell? ⟨gb138, 0, none⟩ = some (.int .i64 a0_0) := (blk_cell BK138.out 0).trans rfl;have hcz107_1 : w106.cell? ⟨gb138, 1, none⟩ = some (.slice A0_1 l0_1.length c0_1) := (blk_cell BK138.out 1).trans rfl;have hfz107_0 := blk_frozen BK138.out 0;have hfz107_1 := blk_frozen BK138.out 1;have hcz108_0 : w106.cell? ⟨gb139, 0, none⟩ = some (.int .i64 a1_0) := (blk_cell BK139.out 0).trans rfl;have hcz108_1 : w106.cell? ⟨gb139, 1, none⟩ = some (.slice A1_1 l1_1.length c1_1) := (blk_cell BK139.out 1).trans rfl;have hfz108_0 := blk_frozen BK139.out 0;have hfz108_1 := blk_frozen BK139.out 1) | ((with_reducible refine gate_callee (f := 13) rfl ?_);refine goesL_ (some 34) rfl rfl Try.func13 (by kernel_rfl) rfl #[.agg #[.int .i64 a0_0, .slice A0_1 l0_1.length c0_1], .agg #[.int .i64 a1_0, .slice A1_1 l1_1.length c1_1]] rfl (by (try simp only [List.map_toArray, List.map_cons, List.map_nil]);first | done | rfl | (simp only [List.length_drop, List.length_take];rfl)) ?_;(with_reducible refine (coset_Quotient.calls kj2 a0_0 _ _ l0_1 a1_0 _ _ l1_1 t148 t151 _ ?side1 ?side2 ?side3 ?side4 A26.out).mono ?_);(case side1 => exact Cst (Kd.C_below HR0_1.out HB.out));(case side2 => exact HC0_1.out);(case side3 => exact Cst (Kd.C_below HR1_1.out HB.out));(case side4 => exact HC1_1.out);rintro e w109 ⟨v149, rfl, ho0, hb⟩;refine ⟨_, rfl, ?_⟩;have n0_ := Aside0.mk (Kd.N_elder' (Nst HO146.out) (by first | exact Kd.N_base ho0 | exact Kd.S_base ho0 | exact Kd.R_base ho0) hb);have n1_ := Aside0.mk (Kd.N_lower (Kd.N_mono (ok' := fun k_ => some k_ ≠ (v145 : Value).ownBlock ∧ k_ ≠ gb138 ∧ k_ ≠ gb139) (Kd.S_N (Kd.S_bound ho0)) (fun k_ hk_ => ⟨(Kd.fresh' (Kd.N_lt (Nst HO146.out)) k_ hk_.2.1), (Kd.freshB (g := gb138) (o := .cells #[.int .i64 a0_0, .slice A0_1 l0_1.length c0_1] 24 (0, 0)) (blkst BK138.out) k_ hk_.2.1), (Kd.freshB (g := gb139) (o := .cells #[.int .i64 a1_0, .slice A1_1 l1_1.length c1_1] 24 (0, 0)) (blkst BK139.out) k_ hk_.2.1)⟩)) (below_size (bel HB.out)));have n2_ := Aside0.mk (blk_below (g := gb138) (o := .cells #[.int .i64 a0_0, .slice A0_1 l0_1.length c0_1] 24 (0, 0)) (blkst BK138.out) hb);have n3_ := Aside0.mk (blk_below (g := gb139) (o := .cells #[.int .i64 a1_0, .slice A1_1 l1_1.length c1_1] 24 (0, 0)) (blkst BK139.out) hb);have n4_ := Aside0.mk (below_step (bel HB.out) hb);clear HO146;clear BK138;clear BK139;clear HB;have HO146 := n0_;have HO150 := n1_;have BK138 := n2_;have BK139 := n3_;have HB := n4_;clear n0_ n1_ n2_ n3_ n4_;(try clear hb);(try clear hb2);(try clear hk);(try clear hi);(try clear ho0);have hcz110_0 : w109.cell? ⟨gb138, 0, none⟩ = some (.int .i64 a0_0) := (blk_cell BK138.out 0).trans rfl;have hcz110_1 : w109.cell? ⟨gb138, 1, none⟩ = some (.slice A0_1 l0_1.length c0_1) := (blk_cell BK138.out 1).trans rfl;have hfz110_0 := blk_frozen BK138.out 0;have hfz110_1 := blk_frozen BK138.out 1) | ((with_reducible refine gate_callee (f := 14) rfl ?_);refine goesL_ (some 38) rfl rfl Try.func14 (by kernel_rfl) rfl #[.agg #[.int .i64 a0_0, .slice A0_1 l0_1.length c0_1]] rfl (by (try simp only [List.map_toArray, List.map_cons, List.map_nil]);first | done | rfl | (simp only [List.length_drop, List.length_take];rfl)) ?_;(with_reducible refine (galoisref23_Check.calls kj2 a0_0 _ _ l0_1 t152 _ ?side1 ?side2 A27.out).mono ?_);(case side1 => exact Cst (Kd.C_below HR0_1.out HB.out));(case side2 => exact HC0_1.out);rintro e w111 ⟨rfl, hb⟩;refine ⟨_, rfl, ?_⟩;have n0_ := Aside0.mk (Kd.N_below (Nst HO146.out) hb);have n1_ := Aside0.mk (Kd.N_below (Nst HO150.out) hb);have n2_ := Aside0.mk (blk_below (g := gb138) (o := .cells #[.int .i64 a0_0, .slice A0_1 l0_1.length c0_1] 24 (0, 0)) (blkst BK138.out) hb);have n3_ := Aside0.mk (blk_below (g := gb139) (o := .cells #[.int .i64 a1_0, .slice A1_1 l1_1.length c1_1] 24 (0, 0)) (blkst BK139.out) hb);have n4_ := Aside0.mk (below_step (bel HB.out) hb);clear HO146;clear HO150;clear BK138;clear BK139;clear HB;have HO146 := n0_;have HO150 := n1_;have BK138 := n2_;have BK139 := n3_;have HB := n4_;clear n0_ n1_ n2_ n3_ n4_;(try clear hb);(try clear hb2);(try clear hk);(try clear hi);obtain ⟨Ao112, co112, eo112⟩ := Kd.N_slice HO146.out;subst eo112;obtain ⟨Ao113, co113, eo113⟩ := Kd.N_slice HO150.out;subst eo113))
         go_ret
         exact ⟨by first | rfl | (simp [errW_none, errW_some] <;> rfl) | (simp [*, errW_none, errW_some] <;> rfl), bel HB.out⟩
      ·rw [if_neg c92] at H
       have c92b0 : (t147 == t152) = false := beq_eq_false_iff_ne.mpr c92
       have c92b1 : (t147 != t152) = true := bne_iff_ne.mpr c92
       obtain rfl := Option.some.inj H
       have hnb114 := NB138_139.out
       have hnc114 := NB139_138.out
       have hcz115_0 : wc.cell? ⟨gb138, 0, none⟩ = some (.int .i64 a0_0) := (blk_cell BK138.out 0).trans rfl
       have hcz115_1 : wc.cell? ⟨gb138, 1, none⟩ = some (.slice A0_1 l0_1.length c0_1) := (blk_cell BK138.out 1).trans rfl
       have hfz115_0 := blk_frozen BK138.out 0
       have hfz115_1 := blk_frozen BK138.out 1
       as_aux_lemma =>
        go_wp2_with (first|((with_reducible refine gate_callee (f := 12) rfl ?_);refine goesL_ (some 28) rfl rfl Try.func12 (by kernel_rfl) rfl #[.agg #[.int .i64 a0_0, .slice A0_1 l0_1.length c0_1]] rfl (by (try simp only [List.map_toArray, List.map_cons, List.map_nil]);first | done | rfl | (simp only [List.length_drop, List.length_take];rfl)) ?_;(with_reducible refine (coset_Table.calls kj2 a0_0 _ _ l0_1 t144 t147 _ ?side1 ?side2 A25.out).mono ?_);(case side1 => exact Cst (Kd.C_below HR0_1.out HB.out));(case side2 => exact HC0_1.out);rintro e w116 ⟨v145, rfl, ho0, hb⟩;refine ⟨_, rfl, ?_⟩;have n0_ := Aside0.mk (Kd.N_lower (Kd.N_mono (ok' := fun k_ => k_ ≠ gb138 ∧ k_ ≠ gb139) (Kd.S_N (Kd.S_bound ho0)) (fun k_ hk_ => ⟨(Kd.freshB (g := gb138) (o := .cells #[.int .i64 a0_0, .slice A0_1 l0_1.length c0_1] 24 (0, 0)) (blkst BK138.out) k_ hk_.2.1), (Kd.freshB (g := gb139) (o := .cells #[.int .i64 a1_0, .slice A1_1 l1_1.length c1_1] 24 (0, 0)) (blkst BK139.out) k_ hk_.2.1)⟩)) (below_size (bel HB.out)));have n1_ := Aside0.mk (blk_below (g := gb138) (o := .cells #[.int .i64 a0_0, .slice A0_1 l0_1.length c0_1] 24 (0, 0)) (blkst BK138.out) hb);have n2_ := Aside0.mk (blk_below (g := gb139) (o := .cells #[.int .i64 a1_0, .slice A1_1 l1_1.length c1_1] 24 (0, 0)) (blkst BK139.out) hb);have n3_ := Aside0.mk (below_step (bel HB.out) hb);clear BK138;clear BK139;clear HB;have HO146 := n0_;have BK138 := n1_;have BK139 := n2_;have HB := n3_;clear n0_ n1_ n2_ n3_;(try clear hb);(try clear hb2);(try clear hk);(try clear hi);(try clear ho0);have hcz117_0 : w116.cell? ⟨gb138, 0, none⟩ = some (.int .i64 a0_0) := (blk_cell BK138.out 0).trans rfl;have hcz117_1 : w116.cell? ⟨gb138, 1, none⟩ = some (.slice A0_1 l0_1.length c0_1) := (blk_cell BK138.out 1).trans rfl;have hfz117_0 := blk_frozen BK138.out 0;have hfz117_1 := blk_frozen BK138.out 1;have hcz118_0 : w116.cell? ⟨gb139, 0, none⟩ = some (.int .i64 a1_0) := (blk_cell BK139.out 0).trans rfl;have hcz118_1 : w116.cell? ⟨gb139, 1, none⟩ = some (.slice A1_1 l1_1.length c1_1) := (blk_cell BK139.out 1).trans rfl;have hfz118_0 := blk_frozen BK139.out 0;have hfz118_1 := blk_frozen BK139.out 1) | ((with_reducible refine gate_callee (f := 13) rfl ?_);refine goesL_ (some 34) rfl rfl Try.func13 (by kernel_rfl) rfl #[.agg #[.int .i64 a0_0, .slice A0_1 l0_1.length c0_1], .agg #[.int .i64 a1_0, .slice A1_1 l1_1.length c1_1]] rfl (by (try simp only [List.map_toArray, List.map_cons, List.map_nil]);first | done | rfl | (simp only [List.length_drop, List.length_take];rfl)) ?_;(with_reducible refine (coset_Quotient.calls kj2 a0_0 _ _ l0_1 a1_0 _ _ l1_1 t148 t151 _ ?side1 ?side2 ?side3 ?side4 A26.out).mono ?_);(case side1 => exact Cst (Kd.C_below HR0_1.out HB.out));(case side2 => exact HC0_1.out);(case side3 => exact Cst (Kd.C_below HR1_1.out HB.out));(case side4 => exact HC1_1.out);rintro e w119 ⟨v149, rfl, ho0, hb⟩;refine ⟨_, rfl, ?_⟩;have n0_ := Aside0.mk (Kd.N_elder' (Nst HO146.out) (by first | exact Kd.N_base ho0 | exact Kd.S_base ho0 | exact Kd.R_base ho0) hb);have n1_ := Aside0.mk (Kd.N_lower (Kd.N_mono (ok' := fun k_ => some k_ ≠ (v145 : Value).ownBlock ∧ k_ ≠ gb138 ∧ k_ ≠ gb139) (Kd.S_N (Kd.S_bound ho0)) (fun k_ hk_ => ⟨(Kd.fresh' (Kd.N_lt (Nst HO146.out)) k_ hk_.2.1), (Kd.freshB (g := gb138) (o := .cells #[.int .i64 a0_0, .slice A0_1 l0_1.length c0_1] 24 (0, 0)) (blkst BK138.out) k_ hk_.2.1), (Kd.freshB (g := gb139) (o := .cells #[.int .i64 a1_0, .slice A1_1 l1_1.length c1_1] 24 (0, 0)) (blkst BK139.out) k_ hk_.2.1)⟩)) (below_size (bel HB.out)));have n2_ := Aside0.mk (blk_below (g := gb138) (o := .cells #[.int .i64 a0_0, .slice A0_1 l0_1.length c0_1] 24 (0, 0)) (blkst BK138.out) hb);have n3_ := Aside0.mk (blk_below (g := gb139) (o := .cells #[.int .i64 a1_0, .slice A1_1 l1_1.length c1_1] 24 (0, 0)) (blkst BK139.out) hb);have n4_ := Aside0.mk (below_step (bel HB.out) hb);clear HO146;clear BK138;clear BK139;clear HB;have HO146 := n0_;have HO150 := n1_;have BK138 := n2_;have BK139 := n3_;have HB := n4_;clear n0_ n1_ n2_ n3_ n4_;(try clear hb);(try clear hb2);(try clear hk);(try clear hi);(try clear ho0);have hcz120_0 : w119.cell? ⟨gb138, 0, none⟩ = some (.int .i64 a0_0) := (blk_cell BK138.out 0).trans rfl;have hcz120_1 : w119.cell? ⟨gb138, 1, none⟩ = some (.slice A0_1 l0_1.length c0_1) := (blk_cell BK138.out 1).trans rfl;have hfz120_0 := blk_frozen BK138.out 0;have hfz120_1 := blk_frozen BK138.out 1) | ((with_reducible refine gate_callee (f := 14) rfl ?_);refine goesL_ (some 38) rfl rfl Try.func14 (by kernel_rfl) rfl #[.agg #[.int .i64 a0_0, .slice A0_1 l0_1.length c0_1]] rfl (by (try simp only [List.map_toArray, List.map_cons, List.map_nil]);first | done | rfl | (simp only [List.length_drop, List.length_take];rfl)) ?_;(with_reducible refine (galoisref23_Check.calls kj2 a0_0 _ _ l0_1 t152 _ ?side1 ?side2 A27.out).mono ?_);(case side1 => exact Cst (Kd.C_below HR0_1.out HB.out));(case side2 => exact HC0_1.out);rintro e w121 ⟨rfl, hb⟩;refine ⟨_, rfl, ?_⟩;have n0_ := Aside0.mk (Kd.N_below (Nst HO146.out) hb);have n1_ := Aside0.mk (Kd.N_below (Nst HO150.out) hb);have n2_ := Aside0.mk (blk_below (g := gb138) (o := .cells #[.int .i64 a0_0, .slice A0_1 l0_1.length c0_1] 24 (0, 0)) (blkst BK138.out) hb);have n3_ := Aside0.mk (blk_below (g := gb139) (o := .cells #[.int .i64 a1_0, .slice A1_1 l1_1.length c1_1] 24 (0, 0)) (blkst BK139.out) hb);have n4_ := Aside0.mk (below_step (bel HB.out) hb);clear HO146;clear HO150;clear BK138;clear BK139;clear HB;have HO146 := n0_;have HO150 := n1_;have BK138 := n2_;have BK139 := n3_;have HB := n4_;clear n0_ n1_ n2_ n3_ n4_;(try clear hb);(try clear hb2);(try clear hk);(try clear hi);obtain ⟨Ao122, co122, eo122⟩ := Kd.N_slice HO146.out;subst eo122))
        go_ret
        exact ⟨by first | rfl | (simp [errW_none, errW_some] <;> rfl) | (simp [*, errW_none, errW_some] <;> rfl), bel HB.out⟩
     ·rw [if_neg c91] at H
      have c91b0 : ((t144.length : Int) == 0) = false := beq_eq_false_iff_ne.mpr c91
      have c91b1 : ((t144.length : Int) != 0) = true := bne_iff_ne.mpr c91
      have c91b2 : ¬ (t144 = []) := fun h_ => c91 (by rw [h_];rfl)
      obtain rfl := Option.some.inj H
      have hnb123 := NB138_139.out
      have hnc123 := NB139_138.out
      have hcz124_0 : wc.cell? ⟨gb138, 0, none⟩ = some (.int .i64 a0_0) := (blk_cell BK138.out 0).trans rfl
      have hcz124_1 : wc.cell? ⟨gb138, 1, none⟩ = some (.slice A0_1 l0_1.length c0_1) := (blk_cell BK138.out 1).trans rfl
      have hfz124_0 := blk_frozen BK138.out 0
      have hfz124_1 := blk_frozen BK138.out 1
      as_aux_lemma =>
       go_wp2_with (first|((with_reducible refine gate_callee (f := 12) rfl ?_);refine goesL_ (some 28) rfl rfl Try.func12 (by kernel_rfl) rfl #[.agg #[.int .i64 a0_0, .slice A0_1 l0_1.length c0_1]] rfl (by (try simp only [List.map_toArray, List.map_cons, List.map_nil]);first | done | rfl | (simp only [List.length_drop, List.length_take];rfl)) ?_;(with_reducible refine (coset_Table.calls kj2 a0_0 _ _ l0_1 t144 t147 _ ?side1 ?side2 A25.out).mono ?_);(case side1 => exact Cst (Kd.C_below HR0_1.out HB.out));(case side2 => exact HC0_1.out);rintro e w125 ⟨v145, rfl, ho0, hb⟩;refine ⟨_, rfl, ?_⟩;have n0_ := Aside0.mk (Kd.N_lower (Kd.N_mono (ok' := fun k_ => k_ ≠ gb138 ∧ k_ ≠ gb139) (Kd.S_N (Kd.S_bound ho0)) (fun k_ hk_ => ⟨(Kd.freshB (g := gb138) (o := .cells #[.int .i64 a0_0, .slice A0_1 l0_1.length c0_1] 24 (0, 0)) (blkst BK138.out) k_ hk_.2.1), (Kd.freshB (g := gb139) (o := .cells #[.int .i64 a1_0, .slice A1_1 l1_1.length c1_1] 24 (0, 0)) (blkst BK139.out) k_ hk_.2.1)⟩)) (below_size (bel HB.out)));have n1_ := Aside0.mk (blk_below (g := gb138) (o := .cells #[.int .i64 a0_0, .slice A0_1 l0_1.length c0_1] 24 (0, 0)) (blkst BK138.out) hb);have n2_ := Aside0.mk (blk_below (g := gb139) (o := .cells #[.int .i64 a1_0, .slice A1_1 l1_1.length c1_1] 24 (0, 0)) (blkst BK139.out) hb);have n3_ := Aside0.mk (below_step (bel HB.out) hb);clear BK138;clear BK139;clear HB;have HO146 := n0_;have BK138 := n1_;have BK139 := n2_;have HB := n3_;clear n0_ n1_ n2_ n3_;(try clear hb);(try clear hb2);(try clear hk);(try clear hi);(try clear ho0);have hcz126_0 : w125.cell? ⟨gb138, 0, none⟩ = some (.int .i64 a0_0) := (blk_cell BK138.out 0).trans rfl;have hcz126_1 : w125.cell? ⟨gb138, 1, none⟩ = some (.slice A0_1 l0_1.length c0_1) := (blk_cell BK138.out 1).trans rfl;have hfz126_0 := blk_frozen BK138.out 0;have hfz126_1 := blk_frozen BK138.out 1;have hcz127_0 : w125.cell? ⟨gb139, 0, none⟩ = some (.int .i64 a1_0) := (blk_cell BK139.out 0).trans rfl;have hcz127_1 : w125.cell? ⟨gb139, 1, none⟩ = some (.slice A1_1 l1_1.length c1_1) := (blk_cell BK139.out 1).trans rfl;have hfz127_0 := blk_frozen BK139.out 0;have hfz127_1 := blk_frozen BK139.out 1) | ((with_reducible refine gate_callee (f := 13) rfl ?_);refine goesL_ (some 34) rfl rfl Try.func13 (by kernel_rfl) rfl #[.agg #[.int .i64 a0_0, .slice A0_1 l0_1.length c0_1], .agg #[.int .i64 a1_0, .slice A1_1 l1_1.length c1_1]] rfl (by (try simp only [List.map_toArray, List.map_cons, List.map_nil]);first | done | rfl | (simp only [List.length_drop, List.length_take];rfl)) ?_;(with_reducible refine (coset_Quotient.calls kj2 a0_0 _ _ l0_1 a1_0 _ _ l1_1 t148 t151 _ ?side1 ?side2 ?side3 ?side4 A26.out).mono ?_);(case side1 => exact Cst (Kd.C_below HR0_1.out HB.out));(case side2 => exact HC0_1.out);(case side3 => exact Cst (Kd.C_below HR1_1.out HB.out));(case side4 => exact HC1_1.out);rintro e w128 ⟨v149, rfl, ho0, hb⟩;refine ⟨_, rfl, ?_⟩;have n0_ := Aside0.mk (Kd.N_elder' (Nst HO146.out) (by first | exact Kd.N_base ho0 | exact Kd.S_base ho0 | exact Kd.R_base ho0) hb);have n1_ := Aside0.mk (Kd.N_lower (Kd.N_mono (ok' := fun k_ => some k_ ≠ (v145 : Value).ownBlock ∧ k_ ≠ gb138 ∧ k_ ≠ gb139) (Kd.S_N (Kd.S_bound ho0)) (fun k_ hk_ => ⟨(Kd.fresh' (Kd.N_lt (Nst HO146.out)) k_ hk_.2.1), (Kd.freshB (g := gb138) (o := .cells #[.int .i64 a0_0, .slice A0_1 l0_1.length c0_1] 24 (0, 0)) (blkst BK138.out) k_ hk_.2.1), (Kd.freshB (g := gb139) (o := .cells #[.int .i64 a1_0, .slice A1_1 l1_1.length c1_1] 24 (0, 0)) (blkst BK139.out) k_ hk_.2.1)⟩)) (below_size (bel HB.out)));have n2_ := Aside0.mk (blk_below (g := gb138) (o := .cells #[.int .i64 a0_0, .slice A0_1 l0_1.length c0_1] 24 (0, 0)) (blkst BK138.out) hb);have n3_ := Aside0.mk (blk_below (g := gb139) (o := .cells #[.int .i64 a1_0, .slice A1_1 l1_1.length c1_1] 24 (0, 0)) (blkst BK139.out) hb);have n4_ := Aside0.mk (below_step (bel HB.out) hb);clear HO146;clear BK138;clear BK139;clear HB;have HO146 := n0_;have HO150 := n1_;have BK138 := n2_;have BK139 := n3_;have HB := n4_;clear n0_ n1_ n2_ n3_ n4_;(try clear hb);(try clear hb2);(try clear hk);(try clear hi);(try clear ho0);have hcz129_0 : w128.cell? ⟨gb138, 0, none⟩ = some (.int .i64 a0_0) := (blk_cell BK138.out 0).trans rfl;have hcz129_1 : w128.cell? ⟨gb138, 1, none⟩ = some (.slice A0_1 l0_1.length c0_1) := (blk_cell BK138.out 1).trans rfl;have hfz129_0 := blk_frozen BK138.out 0;have hfz129_1 := blk_frozen BK138.out 1) | ((with_reducible refine gate_callee (f := 14) rfl ?_);refine goesL_ (some 38) rfl rfl Try.func14 (by kernel_rfl) rfl #[.agg #[.int .i64 a0_0, .slice A0_1 l0_1.length c0_1]] rfl (by (try simp only [List.map_toArray, List.map_cons, List.map_nil]);first | done | rfl | (simp only [List.length_drop, List.length_take];rfl)) ?_;(with_reducible refine (galoisref23_Check.calls kj2 a0_0 _ _ l0_1 t152 _ ?side1 ?side2 A27.out).mono ?_);(case side1 => exact Cst (Kd.C_below HR0_1.out HB.out));(case side2 => exact HC0_1.out);rintro e w130 ⟨rfl, hb⟩;refine ⟨_, rfl, ?_⟩;have n0_ := Aside0.mk (Kd.N_below (Nst HO146.out) hb);have n1_ := Aside0.mk (Kd.N_below (Nst HO150.out) hb);have n2_ := Aside0.mk (blk_below (g := gb138) (o := .cells #[.int .i64 a0_0, .slice A0_1 l0_1.length c0_1] 24 (0, 0)) (blkst BK138.out) hb);have n3_ := Aside0.mk (blk_below (g := gb139) (o := .cells #[.int .i64 a1_0, .slice A1_1 l1_1.length c1_1] 24 (0, 0)) (blkst BK139.out) hb);have n4_ := Aside0.mk (below_step (bel HB.out) hb);clear HO146;clear HO150;clear BK138;clear BK139;clear HB;have HO146 := n0_;have HO150 := n1_;have BK138 := n2_;have BK139 := n3_;have HB := n4_;clear n0_ n1_ n2_ n3_ n4_;(try clear hb);(try clear hb2);(try clear hk);(try clear hi);obtain ⟨Ao131, co131, eo131⟩ := Kd.N_slice HO146.out;subst eo131))
       go_ret
       exact ⟨by first | rfl | (simp [errW_none, errW_some] <;> rfl) | (simp [*, errW_none, errW_some] <;> rfl), bel HB.out⟩
def galoislaw27_CosetTables.Pure : Prop := ∀ (a0_0 : Int) (l0_1 : List (List Int)) (a1_0 : Int) (l1_1 : List (List Int)), (Lit.int .i64 a0_0).wf = true → l0_1.length ≤ maxLen → (∀ x ∈ l0_1, (x.length ≤ maxLen ∧ ∀ y0 ∈ x, (Lit.int .i64 y0).wf = true)) → (Lit.int .i64 a1_0).wf = true → l1_1.length ≤ maxLen → (∀ x ∈ l1_1, (x.length ≤ maxLen ∧ ∀ y0 ∈ x, (Lit.int .i64 y0).wf = true)) → ∃ k, galoislaw27_CosetTables.f k a0_0 l0_1 a1_0 l1_1 = some true
theorem galoislaw27_CosetTables.walk (P : galoislaw27_CosetTables.Pure) (a0_0 : Int) (A0_1 : Option Addr) (c0_1 : Nat) (l0_1 : List (List Int)) (a1_0 : Int) (A1_1 : Option Addr) (c1_1 : Nat) (l1_1 : List (List Int)) (w : World) (w0_0 : (Lit.int .i64 a0_0).wf = true) (hr0_1 : Kd.C (Kd.slice 3 (Kd.int .i64)) w A0_1 l0_1.length l0_1) (hc0_1 : l0_1.length ≤ c0_1) (hm0_1 : l0_1.length ≤ maxLen) (hw0_1 : ∀ x ∈ l0_1, (x.length ≤ maxLen ∧ ∀ y0 ∈ x, (Lit.int .i64 y0).wf = true)) (w1_0 : (Lit.int .i64 a1_0).wf = true) (hr1_1 : Kd.C (Kd.slice 3 (Kd.int .i64)) w A1_1 l1_1.length l1_1) (hc1_1 : l1_1.length ≤ c1_1) (hm1_1 : l1_1.length ≤ maxLen) (hw1_1 : ∀ x ∈ l1_1, (x.length ≤ maxLen ∧ ∀ y0 ∈ x, (Lit.int .i64 y0).wf = true)) :
  Calls Try.prog 3 #[.agg #[.int .i64 a0_0, .slice A0_1 l0_1.length c0_1], .agg #[.int .i64 a1_0, .slice A1_1 l1_1.length c1_1]] w fun e w' => e = .returned (.bool true) ∧ Below w.heap.size w w' := by
 obtain ⟨k, h⟩ := P a0_0 l0_1 a1_0 l1_1 w0_0 hm0_1 hw0_1 w1_0 hm1_1 hw1_1
 refine (galoislaw27_CosetTables.calls k a0_0 _ _ l0_1 a1_0 _ _ l1_1 true w hr0_1 hc0_1 hr1_1 hc1_1 h).mono ?_
 rintro e w' ⟨rfl, hd⟩
 exact ⟨rfl, hd⟩
end Go.Proofs.Ytaaaljifclecnaa.PTa
