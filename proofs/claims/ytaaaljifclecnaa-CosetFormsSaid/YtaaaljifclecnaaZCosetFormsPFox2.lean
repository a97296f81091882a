-- Printed by wip/tools/mk.py of this repo (the kit's print with turns made in memory).
import Derived.Test.YtaaaljifclecnaaZCosetFormsPFox0
import Derived.Test.YtaaaljifclecnaaZCosetFormsPFox1
namespace Go.Proofs.Ytaaaljifclecnaa.PFo
open Go.RowKit Go.Proofs.YtaaaljifclecnaaW.PrintWords Go.Proofs.YtaaaljifclecnaaW.PrintLast Go.Proofs.YtaaaljifclecnaaW.PrintMore
attribute [local go_sem] max2_int min2_int max_two min_two max_three min_three max_four min_four   -- for this text's walks alone
set_option linter.unusedVariables false
set_option linter.unusedSimpArgs false
mutual
def galoislaw27_CosetForms.j0 : Nat → List Int → Bool → Int → List (List Int) → Int → List (List Int) → Option (Bool)
 | 0, _, _, _, _, _, _ => none
 | k + 1, x2, x32, x139000, x139001, x140000, x140001 => if x32 = true then ((galoislaw27_awake.f).bind fun t143 => (some t143)) else ((coset_Index.f k x139000 x139001 x140000 x140001).bind fun bt144 => ((coset_Representatives.f k x139000 x139001 x140000 x140001).bind fun bt146 => ((coset_Find.f k x139000 x139001 x140000 x140001 x2).bind fun bt150 => ((galoislaw27_groups.f k x139000 x139001 x140000 x140001).bind fun bt152 => ((galoisref23_Two.f k x139000 x139001 x140000 x140001).bind fun t159 => (if t159 = 0 then ((galoisref23_With.f k x139000 x139001 x2).bind fun t160 => (galoislaw27_CosetForms.j1 k x2 bt144.1 bt144.2 bt146.1 bt146.2 bt150.1 bt150.2 bt152.1 bt152.2.1 bt152.2.2 t160)) else (galoislaw27_CosetForms.j1 k x2 bt144.1 bt144.2 bt146.1 bt146.2 bt150.1 bt150.2 bt152.1 bt152.2.1 bt152.2.2 t159)))))))
def galoislaw27_CosetForms.j1 : Nat → List Int → Int → Int → List (List Int) → Int → Int → Int → List (List Int) → List (List Int) → Int → Int → Option (Bool)
 | 0, _, _, _, _, _, _, _, _, _, _, _ => none
 | k + 1, x2, x7, x8, x9, x10, x11, x12, x13, x14, x15, x16 => if x16 = 0 then (galoislaw27_CosetForms.j2 k x2 x7 x8 x9 x10 x11 x12 x13 x14 x15 x15) else (galoislaw27_CosetForms.j2 k x2 x7 x8 x9 x10 x11 x12 x13 x14 x15 x16)
def galoislaw27_CosetForms.j2 : Nat → List Int → Int → Int → List (List Int) → Int → Int → Int → List (List Int) → List (List Int) → Int → Int → Option (Bool)
 | 0, _, _, _, _, _, _, _, _, _, _, _ => none
 | k + 1, x2, x7, x8, x9, x10, x11, x12, x13, x14, x15, x16 => if x15 = 0 then ((galoisref27_Representatives.f k x13 x14).bind fun t161 => (if x8 = 0 then (if x7 = (t161.length : Int) then (if x10 = 0 then ((galoisref22_SamePerms.f k x9 t161).bind fun t164 => (galoislaw27_CosetForms.j3 k x2 x11 x12 x13 x14 x16 t161 (!t164))) else (galoislaw27_CosetForms.j3 k x2 x11 x12 x13 x14 x16 t161 true)) else (galoislaw27_CosetForms.j3 k x2 x11 x12 x13 x14 x16 t161 true)) else (galoislaw27_CosetForms.j3 k x2 x11 x12 x13 x14 x16 t161 true))) else (if x7 = 0 then (if x8 = x15 then (if (x9.length : Int) = 0 then (if x10 = x15 then (if x11 = 0 then (some (x12 == x16)) else (some false)) else (some false)) else (some false)) else (some false)) else (some false))
def galoislaw27_CosetForms.j3 : Nat → List Int → Int → Int → List (List Int) → List (List Int) → Int → List (List Int) → Bool → Option (Bool)
 | 0, _, _, _, _, _, _, _, _ => none
 | k + 1, x2, x11, x12, x13, x14, x16, x17, x119 => if x119 = true then (some false) else (if x16 = 0 then ((galoisref23_Has.f k x13 x2).bind fun t165 => (if t165 = true then (if x12 = 0 then ((galoisref27_Find.f k x14 x17 x2).bind fun t166 => (some (x11 == t166))) else (some false)) else (if x11 = 0 then (some (x12 == 28)) else (some false)))) else (if x11 = 0 then (some (x12 == x16)) else (some false)))
end
def galoislaw27_CosetForms.f (k : Nat) (a0_0 : Int) (l0_1 : List (List Int)) (a1_0 : Int) (l1_1 : List (List Int)) (l2 : List Int) : Option (Bool) := (galoislaw27_awake.f).bind fun t140 => (if t140 = true then ((galoislaw27_large.f k a0_0 l0_1).bind fun t141 => (if t141 = true then (galoislaw27_CosetForms.j0 k l2 true a0_0 l0_1 a1_0 l1_1) else ((galoislaw27_large.f k a1_0 l1_1).bind fun t142 => (if t142 = true then (galoislaw27_CosetForms.j0 k l2 true a0_0 l0_1 a1_0 l1_1) else (galoislaw27_CosetForms.j0 k l2 (decide ((l2.length : Int) > 40)) a0_0 l0_1 a1_0 l1_1))))) else (galoislaw27_CosetForms.j0 k l2 true a0_0 l0_1 a1_0 l1_1))
set_option maxHeartbeats 8000000 in
set_option maxRecDepth 100000 in
theorem galoislaw27_CosetForms.calls (k : Nat) (a0_0 : Int) (A0_1 : Option Addr) (c0_1 : Nat) (l0_1 : List (List Int)) (a1_0 : Int) (A1_1 : Option Addr) (c1_1 : Nat) (l1_1 : List (List Int)) (A2 : Option Addr) (c2 : Nat) (l2 : List Int) (r : Bool) (w : World) (hr0_1 : Kd.C (Kd.slice 3 (Kd.int .i64)) w A0_1 l0_1.length l0_1) (hc0_1 : l0_1.length ≤ c0_1) (hr1_1 : Kd.C (Kd.slice 3 (Kd.int .i64)) w A1_1 l1_1.length l1_1) (hc1_1 : l1_1.length ≤ c1_1) (hr2 : Kd.C (Kd.int .i64) w A2 l2.length l2) (hc2 : l2.length ≤ c2) (h : galoislaw27_CosetForms.f k a0_0 l0_1 a1_0 l1_1 l2 = some r) :
  Calls Try.prog 4 #[.agg #[.int .i64 a0_0, .slice A0_1 l0_1.length c0_1], .agg #[.int .i64 a1_0, .slice A1_1 l1_1.length c1_1], .slice A2 l2.length c2] w fun e w' => e = .returned (.bool r) ∧ Below w.heap.size w w' := by
 have hu24 := Try.underlying24
 have HR0_1 := Aside0.mk hr0_1
 have HC0_1 := Aside0.mk hc0_1
 clear hr0_1 hc0_1
 have HR1_1 := Aside0.mk hr1_1
 have HC1_1 := Aside0.mk hc1_1
 clear hr1_1 hc1_1
 have HR2 := Aside0.mk hr2
 have HC2 := Aside0.mk hc2
 clear hr2 hc2
 have HB := Aside0.mk (Below.refl w.heap.size w)
 have H : ((galoislaw27_awake.f).bind fun t140 => (if t140 = true then ((galoislaw27_large.f k a0_0 l0_1).bind fun t141 => (if t141 = true then (galoislaw27_CosetForms.j0 k l2 true a0_0 l0_1 a1_0 l1_1) else ((galoislaw27_large.f k a1_0 l1_1).bind fun t142 => (if t142 = true then (galoislaw27_CosetForms.j0 k l2 true a0_0 l0_1 a1_0 l1_1) else (galoislaw27_CosetForms.j0 k l2 (decide ((l2.length : Int) > 40)) a0_0 l0_1 a1_0 l1_1))))) else (galoislaw27_CosetForms.j0 k l2 true a0_0 l0_1 a1_0 l1_1))) = some r := h
 clear h
 have HC4 := Aside0.mk H
 clear H
 go_enter Try.func4, Try.ntmps4
 go_upto_region 1 with (first|((with_reducible refine gate_dst (N := 3) rfl ?_);(try (refine gate_guard (by rfl) ?_;dsimp only));refine box_event ?hg (N := 3) ?hd (cs := #[.int .i64 a0_0, .slice A0_1 l0_1.length c0_1]) (t := 24) ?hr ?_;(case hd => rfl);(case hg => rfl);(case hr => first | (go_simp;done) | (go_simp;rfl));intro gb138 hg w5 hbox hb;have n0_ := Aside0.mk (below_step (by repeat (first|(with_reducible first | exact HB.out | apply below_alloc | apply pw_below_drewN | apply below_drew1) | exact HB.out)) hb);have n1_ := Aside0.mk (hbox);have n2_ := Aside0.mk ((by rw [hg];exact (below_size (by repeat (first|(with_reducible first | exact HB.out | apply below_alloc | apply pw_below_drewN | apply below_drew1) | exact HB.out))) : w.heap.size ≤ gb138));have n3_ := Aside0.mk ((by rw [hg];exact (below_size (by repeat (first|(with_reducible first | exact HB.out | apply below_alloc | apply pw_below_drewN | apply below_drew1) | exact HB.out))) : w.heap.size ≤ gb138));clear HB;have HB := n0_;have BK138 := n1_;have GW138 := n2_;have GE138 := n3_;clear n0_ n1_ n2_ n3_;clear hb hbox hg) | ((with_reducible refine gate_dst (N := 4) rfl ?_);(try (refine gate_guard (by rfl) ?_;dsimp only));refine box_event ?hg (N := 4) ?hd (cs := #[.int .i64 a1_0, .slice A1_1 l1_1.length c1_1]) (t := 24) ?hr ?_;(case hd => rfl);(case hg => rfl);(case hr => first | (go_simp;done) | (go_simp;rfl));intro gb139 hg w6 hbox hb;have n0_ := Aside0.mk (blk_below (g := gb138) (o := .cells #[.int .i64 a0_0, .slice A0_1 l0_1.length c0_1] 24 (0, 0)) (by (with_reducible repeat (first|refine blk_drewN ?_ _ | refine blk_drew ?_ | refine blk_alloc ?_ _));exact BK138.out) hb);have n1_ := Aside0.mk (below_step (by repeat (first|(with_reducible first | exact HB.out | apply below_alloc | apply pw_below_drewN | apply below_drew1 | refine below_set ?_ GE138.out) | exact HB.out)) hb);have n2_ := Aside0.mk (hbox);have n3_ := Aside0.mk ((by rw [hg];exact (below_size (by repeat (first|(with_reducible first | exact HB.out | apply below_alloc | apply pw_below_drewN | apply below_drew1 | refine below_set ?_ GE138.out) | exact HB.out))) : w.heap.size ≤ gb139));have n4_ := Aside0.mk ((by rw [hg];exact (below_size (by repeat (first|(with_reducible first | exact HB.out | apply below_alloc | apply pw_below_drewN | apply below_drew1 | refine below_set ?_ GE138.out) | exact HB.out))) : w.heap.size ≤ gb139));have n5_ := Aside0.mk ((by rw [hg];exact Nat.ne_of_lt (blk_lt (g := gb138) (o := .cells #[.int .i64 a0_0, .slice A0_1 l0_1.length c0_1] 24 (0, 0)) (by (with_reducible repeat (first|refine blk_drewN ?_ _ | refine blk_drew ?_ | refine blk_alloc ?_ _));exact BK138.out)) : gb138 ≠ gb139));have n6_ := Aside0.mk ((by rw [hg];exact Nat.ne_of_gt (blk_lt (g := gb138) (o := .cells #[.int .i64 a0_0, .slice A0_1 l0_1.length c0_1] 24 (0, 0)) (by (with_reducible repeat (first|refine blk_drewN ?_ _ | refine blk_drew ?_ | refine blk_alloc ?_ _));exact BK138.out)) : gb139 ≠ gb138));clear BK138;clear HB;have BK138 := n0_;have HB := n1_;have BK139 := n2_;have GW139 := n3_;have GE139 := n4_;have NB138_139 := n5_;have NB139_138 := n6_;clear n0_ n1_ n2_ n3_ n4_ n5_ n6_;clear hb hbox hg))
 (try simp only [Act.put, List.setIfInBounds_toArray, List.set_cons_zero, List.set_cons_succ])
 go_cut [32] (fun v32 wc => ∃ (kq : Nat) (x32_3 : Bool), v32 = .bool x32_3 ∧ Aside0 (galoislaw27_CosetForms.j0 kq l2 x32_3 a0_0 l0_1 a1_0 l1_1 = some r) ∧ Aside0 (kq ≤ k) ∧ Aside0 (wc.heap[gb138]? = some (.cells #[.int .i64 a0_0, (.slice A0_1 l0_1.length c0_1)] 24 (0, 0))) ∧ Aside0 (wc.heap[gb139]? = some (.cells #[.int .i64 a1_0, (.slice A1_1 l1_1.length c1_1)] 24 (0, 0))) ∧ Aside0 (Below w.heap.size w wc))
 case first =>
  have H := HC4.out
  clear HC4
  replace H := Option.bind_eq_some_iff.mp H
  obtain ⟨t140, A70, H⟩ := H
  replace H : (if t140 = true then ((galoislaw27_large.f k a0_0 l0_1).bind fun t141 => (if t141 = true then (galoislaw27_CosetForms.j0 k l2 true a0_0 l0_1 a1_0 l1_1) else ((galoislaw27_large.f k a1_0 l1_1).bind fun t142 => (if t142 = true then (galoislaw27_CosetForms.j0 k l2 true a0_0 l0_1 a1_0 l1_1) else (galoislaw27_CosetForms.j0 k l2 (decide ((l2.length : Int) > 40)) a0_0 l0_1 a1_0 l1_1))))) else (galoislaw27_CosetForms.j0 k l2 true a0_0 l0_1 a1_0 l1_1)) = some r := H
  have A7 := Aside0.mk A70
  clear A70
  by_cases c8 : t140 = true
  ·subst c8
   have H1 : ((galoislaw27_large.f k a0_0 l0_1).bind fun t141 => (if t141 = true then (galoislaw27_CosetForms.j0 k l2 true a0_0 l0_1 a1_0 l1_1) else ((galoislaw27_large.f k a1_0 l1_1).bind fun t142 => (if t142 = true then (galoislaw27_CosetForms.j0 k l2 true a0_0 l0_1 a1_0 l1_1) else (galoislaw27_CosetForms.j0 k l2 (decide ((l2.length : Int) > 40)) a0_0 l0_1 a1_0 l1_1))))) = some r := by rw [if_pos rfl] at H;exact H
   clear H
   have H := H1
   clear H1
   replace H := Option.bind_eq_some_iff.mp H
   obtain ⟨t141, A90, H⟩ := H
   replace H : (if t141 = true then (galoislaw27_CosetForms.j0 k l2 true a0_0 l0_1 a1_0 l1_1) else ((galoislaw27_large.f k a1_0 l1_1).bind fun t142 => (if t142 = true then (galoislaw27_CosetForms.j0 k l2 true a0_0 l0_1 a1_0 l1_1) else (galoislaw27_CosetForms.j0 k l2 (decide ((l2.length : Int) > 40)) a0_0 l0_1 a1_0 l1_1)))) = some r := H
   have A9 := Aside0.mk A90
   clear A90
   by_cases c10 : t141 = true
   ·subst c10
    have H1 : (galoislaw27_CosetForms.j0 k l2 true a0_0 l0_1 a1_0 l1_1) = some r := by rw [if_pos rfl] at H;exact H
    clear H
    have H := H1
    clear H1
    have H' := Aside0.mk H
    clear H
    as_aux_lemma =>
     go_wp2_with (first|((with_reducible refine gate_callee (f := 10) rfl ?_);refine goesL_ (some 18) rfl rfl Try.func10 (by kernel_rfl) rfl #[] rfl (by (try simp only [List.map_toArray, List.map_cons, List.map_nil]);first | done | rfl | (simp only [List.length_drop, List.length_take];rfl)) ?_;(with_reducible refine (galoislaw27_awake.calls  true _ A7.out).mono ?_);rintro e w11 ⟨rfl, hb⟩;refine ⟨_, rfl, ?_⟩;have n0_ := Aside0.mk (blk_below (g := gb138) (o := .cells #[.int .i64 a0_0, .slice A0_1 l0_1.length c0_1] 24 (0, 0)) (by (with_reducible repeat (first|refine blk_drewN ?_ _ | refine blk_drew ?_ | refine blk_alloc ?_ _));exact BK138.out) hb);have n1_ := Aside0.mk (blk_below (g := gb139) (o := .cells #[.int .i64 a1_0, .slice A1_1 l1_1.length c1_1] 24 (0, 0)) (by (with_reducible repeat (first|refine blk_drewN ?_ _ | refine blk_drew ?_ | refine blk_alloc ?_ _));exact BK139.out) hb);have n2_ := Aside0.mk (below_step (by repeat (first|(with_reducible first | exact HB.out | apply below_alloc | apply pw_below_drewN | apply below_drew1 | refine below_set ?_ GE138.out | refine below_set ?_ GE139.out) | exact HB.out)) hb);clear BK138;clear BK139;clear HB;have BK138 := n0_;have BK139 := n1_;have HB := n2_;clear n0_ n1_ n2_;(try clear hb);(try clear hb2);(try clear hk);(try clear hi);have hnb12 := NB138_139.out;have hnc12 := NB139_138.out;have hcz13_0 : w11.cell? ⟨gb138, 0, none⟩ = some (.int .i64 a0_0) := (blk_cell BK138.out 0).trans rfl;have hcz13_1 : w11.cell? ⟨gb138, 1, none⟩ = some (.slice A0_1 l0_1.length c0_1) := (blk_cell BK138.out 1).trans rfl;have hfz13_0 := blk_frozen BK138.out 0;have hfz13_1 := blk_frozen BK138.out 1) | (go_at_call 11;(with_reducible refine (galoislaw27_large.calls k a0_0 _ _ l0_1 true _ ?side1 ?side2 A9.out).mono ?_);(case side1 => repeat (first|exact (Kd.C_below HR0_1.out HB.out) | (with_reducible refine Kd.C_alloc ?_ _) | (with_reducible refine Kd.C_drewN ?_ _) | (with_reducible refine Kd.C_drew ?_)));(case side2 => exact HC0_1.out);rintro e w14 ⟨rfl, hb⟩;have n0_ := Aside0.mk (blk_below (g := gb138) (o := .cells #[.int .i64 a0_0, .slice A0_1 l0_1.length c0_1] 24 (0, 0)) (by (with_reducible repeat (first|refine blk_drewN ?_ _ | refine blk_drew ?_ | refine blk_alloc ?_ _));exact BK138.out) hb);have n1_ := Aside0.mk (blk_below (g := gb139) (o := .cells #[.int .i64 a1_0, .slice A1_1 l1_1.length c1_1] 24 (0, 0)) (by (with_reducible repeat (first|refine blk_drewN ?_ _ | refine blk_drew ?_ | refine blk_alloc ?_ _));exact BK139.out) hb);have n2_ := Aside0.mk (below_step (by repeat (first|(with_reducible first | exact HB.out | apply below_alloc | apply pw_below_drewN | apply below_drew1 | refine below_set ?_ GE138.out | refine below_set ?_ GE139.out) | exact HB.out)) hb);clear BK138;clear BK139;clear HB;have BK138 := n0_;have BK139 := n1_;have HB := n2_;clear n0_ n1_ n2_;(try clear hb);(try clear hb2);(try clear hk);(try clear hi)))
     go_meet
     case rel => exact ⟨_, (true), (by first | rfl | (simp;done) | (simp [*];done)), H', ⟨by first | omega | exact Nat.le_refl _⟩, ⟨by (with_reducible repeat (first|refine blk_drewN ?_ _ | refine blk_drew ?_ | refine blk_alloc ?_ _));exact BK138.out⟩, ⟨by (with_reducible repeat (first|refine blk_drewN ?_ _ | refine blk_drew ?_ | refine blk_alloc ?_ _));exact BK139.out⟩, ⟨by repeat (first|(with_reducible first | exact HB.out | apply below_alloc | apply pw_below_drewN | apply below_drew1 | refine below_set ?_ GE138.out | refine below_set ?_ GE139.out) | exact HB.out)⟩⟩
   ·replace c10 := Bool.eq_false_iff.mpr c10
    subst c10
    have H1 : ((galoislaw27_large.f k a1_0 l1_1).bind fun t142 => (if t142 = true then (galoislaw27_CosetForms.j0 k l2 true a0_0 l0_1 a1_0 l1_1) else (galoislaw27_CosetForms.j0 k l2 (decide ((l2.length : Int) > 40)) a0_0 l0_1 a1_0 l1_1))) = some r := by rw [if_neg (show ¬ (false = true) by decide)] at H;exact H
    clear H
    have H := H1
    clear H1
    replace H := Option.bind_eq_some_iff.mp H
    obtain ⟨t142, A150, H⟩ := H
    replace H : (if t142 = true then (galoislaw27_CosetForms.j0 k l2 true a0_0 l0_1 a1_0 l1_1) else (galoislaw27_CosetForms.j0 k l2 (decide ((l2.length : Int) > 40)) a0_0 l0_1 a1_0 l1_1)) = some r := H
    have A15 := Aside0.mk A150
    clear A150
    by_cases c16 : t142 = true
    ·subst c16
     have H1 : (galoislaw27_CosetForms.j0 k l2 true a0_0 l0_1 a1_0 l1_1) = some r := by rw [if_pos rfl] at H;exact H
     clear H
     have H := H1
     clear H1
     have H' := Aside0.mk H
     clear H
     as_aux_lemma =>
      go_wp2_with (first|((with_reducible refine gate_callee (f := 10) rfl ?_);refine goesL_ (some 18) rfl rfl Try.func10 (by kernel_rfl) rfl #[] rfl (by (try simp only [List.map_toArray, List.map_cons, List.map_nil]);first | done | rfl | (simp only [List.length_drop, List.length_take];rfl)) ?_;(with_reducible refine (galoislaw27_awake.calls  true _ A7.out).mono ?_);rintro e w17 ⟨rfl, hb⟩;refine ⟨_, rfl, ?_⟩;have n0_ := Aside0.mk (blk_below (g := gb138) (o := .cells #[.int .i64 a0_0, .slice A0_1 l0_1.length c0_1] 24 (0, 0)) (by (with_reducible repeat (first|refine blk_drewN ?_ _ | refine blk_drew ?_ | refine blk_alloc ?_ _));exact BK138.out) hb);have n1_ := Aside0.mk (blk_below (g := gb139) (o := .cells #[.int .i64 a1_0, .slice A1_1 l1_1.length c1_1] 24 (0, 0)) (by (with_reducible repeat (first|refine blk_drewN ?_ _ | refine blk_drew ?_ | refine blk_alloc ?_ _));exact BK139.out) hb);have n2_ := Aside0.mk (below_step (by repeat (first|(with_reducible first | exact HB.out | apply below_alloc | apply pw_below_drewN | apply below_drew1 | refine below_set ?_ GE138.out | refine below_set ?_ GE139.out) | exact HB.out)) hb);clear BK138;clear BK139;clear HB;have BK138 := n0_;have BK139 := n1_;have HB := n2_;clear n0_ n1_ n2_;(try clear hb);(try clear hb2);(try clear hk);(try clear hi);have hnb18 := NB138_139.out;have hnc18 := NB139_138.out;have hcz19_0 : w17.cell? ⟨gb138, 0, none⟩ = some (.int .i64 a0_0) := (blk_cell BK138.out 0).trans rfl;have hcz19_1 : w17.cell? ⟨gb138, 1, none⟩ = some (.slice A0_1 l0_1.length c0_1) := (blk_cell BK138.out 1).trans rfl;have hfz19_0 := blk_frozen BK138.out 0;have hfz19_1 := blk_frozen BK138.out 1) | (go_at_call 11;(with_reducible refine (galoislaw27_large.calls k a0_0 _ _ l0_1 false _ ?side1 ?side2 A9.out).mono ?_);(case side1 => repeat (first|exact (Kd.C_below HR0_1.out HB.out) | (with_reducible refine Kd.C_alloc ?_ _) | (with_reducible refine Kd.C_drewN ?_ _) | (with_reducible refine Kd.C_drew ?_)));(case side2 => exact HC0_1.out);rintro e w20 ⟨rfl, hb⟩;have n0_ := Aside0.mk (blk_below (g := gb138) (o := .cells #[.int .i64 a0_0, .slice A0_1 l0_1.length c0_1] 24 (0, 0)) (by (with_reducible repeat (first|refine blk_drewN ?_ _ | refine blk_drew ?_ | refine blk_alloc ?_ _));exact BK138.out) hb);have n1_ := Aside0.mk (blk_below (g := gb139) (o := .cells #[.int .i64 a1_0, .slice A1_1 l1_1.length c1_1] 24 (0, 0)) (by (with_reducible repeat (first|refine blk_drewN ?_ _ | refine blk_drew ?_ | refine blk_alloc ?_ _));exact BK139.out) hb);have n2_ := Aside0.mk (below_step (by repeat (first|(with_reducible first | exact HB.out | apply below_alloc | apply pw_below_drewN | apply below_drew1 | refine below_set ?_ GE138.out | refine below_set ?_ GE139.out) | exact HB.out)) hb);clear BK138;clear BK139;clear HB;have BK138 := n0_;have BK139 := n1_;have HB := n2_;clear n0_ n1_ n2_;(try clear hb);(try clear hb2);(try clear hk);(try clear hi);have hcz21_0 : w20.cell? ⟨gb139, 0, none⟩ = some (.int .i64 a1_0) := (blk_cell BK139.out 0).trans rfl;have hcz21_1 : w20.cell? ⟨gb139, 1, none⟩ = some (.slice A1_1 l1_1.length c1_1) := (blk_cell BK139.out 1).trans rfl;have hfz21_0 := blk_frozen BK139.out 0;have hfz21_1 := blk_frozen BK139.out 1) | (go_at_call 11;(with_reducible refine (galoislaw27_large.calls k a1_0 _ _ l1_1 true _ ?side1 ?side2 A15.out).mono ?_);(case side1 => repeat (first|exact (Kd.C_below HR1_1.out HB.out) | (with_reducible refine Kd.C_alloc ?_ _) | (with_reducible refine Kd.C_drewN ?_ _) | (with_reducible refine Kd.C_drew ?_)));(case side2 => exact HC1_1.out);rintro e w22 ⟨rfl, hb⟩;have n0_ := Aside0.mk (blk_below (g := gb138) (o := .cells #[.int .i64 a0_0, .slice A0_1 l0_1.length c0_1] 24 (0, 0)) (by (with_reducible repeat (first|refine blk_drewN ?_ _ | refine blk_drew ?_ | refine blk_alloc ?_ _));exact BK138.out) hb);have n1_ := Aside0.mk (blk_below (g := gb139) (o := .cells #[.int .i64 a1_0, .slice A1_1 l1_1.length c1_1] 24 (0, 0)) (by (with_reducible repeat (first|refine blk_drewN ?_ _ | refine blk_drew ?_ | refine blk_alloc ?_ _));exact BK139.out) hb);have n2_ := Aside0.mk (below_step (by repeat (first|(with_reducible first | exact HB.out | apply below_alloc | apply pw_below_drewN | apply below_drew1 | refine below_set ?_ GE138.out | refine below_set ?_ GE139.out) | exact HB.out)) hb);clear BK138;clear BK139;clear HB;have BK138 := n0_;have BK139 := n1_;have HB := n2_;clear n0_ n1_ n2_;(try clear hb);(try clear hb2);(try clear hk);(try clear hi)))
      go_meet
      case rel => exact ⟨_, (true), (by first | rfl | (simp;done) | (simp [*];done)), H', ⟨by first | omega | exact Nat.le_refl _⟩, ⟨by (with_reducible repeat (first|refine blk_drewN ?_ _ | refine blk_drew ?_ | refine blk_alloc ?_ _));exact BK138.out⟩, ⟨by (with_reducible repeat (first|refine blk_drewN ?_ _ | refine blk_drew ?_ | refine blk_alloc ?_ _));exact BK139.out⟩, ⟨by repeat (first|(with_reducible first | exact HB.out | apply below_alloc | apply pw_below_drewN | apply below_drew1 | refine below_set ?_ GE138.out | refine below_set ?_ GE139.out) | exact HB.out)⟩⟩
    ·replace c16 := Bool.eq_false_iff.mpr c16
     subst c16
     have H1 : (galoislaw27_CosetForms.j0 k l2 (decide ((l2.length : Int) > 40)) a0_0 l0_1 a1_0 l1_1) = some r := by rw [if_neg (show ¬ (false = true) by decide)] at H;exact H
     clear H
     have H := H1
     clear H1
     have H' := Aside0.mk H
     clear H
     as_aux_lemma =>
      go_wp2_with (first|((with_reducible refine gate_callee (f := 10) rfl ?_);refine goesL_ (some 18) rfl rfl Try.func10 (by kernel_rfl) rfl #[] rfl (by (try simp only [List.map_toArray, List.map_cons, List.map_nil]);first | done | rfl | (simp only [List.length_drop, List.length_take];rfl)) ?_;(with_reducible refine (galoislaw27_awake.calls  true _ A7.out).mono ?_);rintro e w23 ⟨rfl, hb⟩;refine ⟨_, rfl, ?_⟩;have n0_ := Aside0.mk (blk_below (g := gb138) (o := .cells #[.int .i64 a0_0, .slice A0_1 l0_1.length c0_1] 24 (0, 0)) (by (with_reducible repeat (first|refine blk_drewN ?_ _ | refine blk_drew ?_ | refine blk_alloc ?_ _));exact BK138.out) hb);have n1_ := Aside0.mk (blk_below (g := gb139) (o := .cells #[.int .i64 a1_0, .slice A1_1 l1_1.length c1_1] 24 (0, 0)) (by (with_reducible repeat (first|refine blk_drewN ?_ _ | refine blk_drew ?_ | refine blk_alloc ?_ _));exact BK139.out) hb);have n2_ := Aside0.mk (below_step (by repeat (first|(with_reducible first | exact HB.out | apply below_alloc | apply pw_below_drewN | apply below_drew1 | refine below_set ?_ GE138.out | refine below_set ?_ GE139.out) | exact HB.out)) hb);clear BK138;clear BK139;clear HB;have BK138 := n0_;have BK139 := n1_;have HB := n2_;clear n0_ n1_ n2_;(try clear hb);(try clear hb2);(try clear hk);(try clear hi);have hnb24 := NB138_139.out;have hnc24 := NB139_138.out;have hcz25_0 : w23.cell? ⟨gb138, 0, none⟩ = some (.int .i64 a0_0) := (blk_cell BK138.out 0).trans rfl;have hcz25_1 : w23.cell? ⟨gb138, 1, none⟩ = some (.slice A0_1 l0_1.length c0_1) := (blk_cell BK138.out 1).trans rfl;have hfz25_0 := blk_frozen BK138.out 0;have hfz25_1 := blk_frozen BK138.out 1) | (go_at_call 11;(with_reducible refine (galoislaw27_large.calls k a0_0 _ _ l0_1 false _ ?side1 ?side2 A9.out).mono ?_);(case side1 => repeat (first|exact (Kd.C_below HR0_1.out HB.out) | (with_reducible refine Kd.C_alloc ?_ _) | (with_reducible refine Kd.C_drewN ?_ _) | (with_reducible refine Kd.C_drew ?_)));(case side2 => exact HC0_1.out);rintro e w26 ⟨rfl, hb⟩;have n0_ := Aside0.mk (blk_below (g := gb138) (o := .cells #[.int .i64 a0_0, .slice A0_1 l0_1.length c0_1] 24 (0, 0)) (by (with_reducible repeat (first|refine blk_drewN ?_ _ | refine blk_drew ?_ | refine blk_alloc ?_ _));exact BK138.out) hb);have n1_ := Aside0.mk (blk_below (g := gb139) (o := .cells #[.int .i64 a1_0, .slice A1_1 l1_1.length c1_1] 24 (0, 0)) (by (with_reducible repeat (first|refine blk_drewN ?_ _ | refine blk_drew ?_ | refine blk_alloc ?_ _));exact BK139.out) hb);have n2_ := Aside0.mk (below_step (by repeat (first|(with_reducible first | exact HB.out | apply below_alloc | apply pw_below_drewN | apply below_drew1 | refine below_set ?_ GE138.out | refine below_set ?_ GE139.out) | exact HB.out)) hb);clear BK138;clear BK139;clear HB;have BK138 := n0_;have BK139 := n1_;have HB := n2_;clear n0_ n1_ n2_;(try clear hb);(try clear hb2);(try clear hk);(try clear hi);have hcz27_0 : w26.cell? ⟨gb139, 0, none⟩ = some (.int .i64 a1_0) := (blk_cell BK139.out 0).trans rfl;have hcz27_1 : w26.cell? ⟨gb139, 1, none⟩ = some (.slice A1_1 l1_1.length c1_1) := (blk_cell BK139.out 1).trans rfl;have hfz27_0 := blk_frozen BK139.out 0;have hfz27_1 := blk_frozen BK139.out 1) | (go_at_call 11;(with_reducible refine (galoislaw27_large.calls k a1_0 _ _ l1_1 false _ ?side1 ?side2 A15.out).mono ?_);(case side1 => repeat (first|exact (Kd.C_below HR1_1.out HB.out) | (with_reducible refine Kd.C_alloc ?_ _) | (with_reducible refine Kd.C_drewN ?_ _) | (with_reducible refine Kd.C_drew ?_)));(case side2 => exact HC1_1.out);rintro e w28 ⟨rfl, hb⟩;have n0_ := Aside0.mk (blk_below (g := gb138) (o := .cells #[.int .i64 a0_0, .slice A0_1 l0_1.length c0_1] 24 (0, 0)) (by (with_reducible repeat (first|refine blk_drewN ?_ _ | refine blk_drew ?_ | refine blk_alloc ?_ _));exact BK138.out) hb);have n1_ := Aside0.mk (blk_below (g := gb139) (o := .cells #[.int .i64 a1_0, .slice A1_1 l1_1.length c1_1] 24 (0, 0)) (by (with_reducible repeat (first|refine blk_drewN ?_ _ | refine blk_drew ?_ | refine blk_alloc ?_ _));exact BK139.out) hb);have n2_ := Aside0.mk (below_step (by repeat (first|(with_reducible first | exact HB.out | apply below_alloc | apply pw_below_drewN | apply below_drew1 | refine below_set ?_ GE138.out | refine below_set ?_ GE139.out) | exact HB.out)) hb);clear BK138;clear BK139;clear HB;have BK138 := n0_;have BK139 := n1_;have HB := n2_;clear n0_ n1_ n2_;(try clear hb);(try clear hb2);(try clear hk);(try clear hi)))
      go_meet
      case rel => exact ⟨_, (decide ((l2.length : Int) > 40)), (by first | rfl | (simp;done) | (simp [*];done)), H', ⟨by first | omega | exact Nat.le_refl _⟩, ⟨by (with_reducible repeat (first|refine blk_drewN ?_ _ | refine blk_drew ?_ | refine blk_alloc ?_ _));exact BK138.out⟩, ⟨by (with_reducible repeat (first|refine blk_drewN ?_ _ | refine blk_drew ?_ | refine blk_alloc ?_ _));exact BK139.out⟩, ⟨by repeat (first|(with_reducible first | exact HB.out | apply below_alloc | apply pw_below_drewN | apply below_drew1 | refine below_set ?_ GE138.out | refine below_set ?_ GE139.out) | exact HB.out)⟩⟩
  ·replace c8 := Bool.eq_false_iff.mpr c8
   subst c8
   have H1 : (galoislaw27_CosetForms.j0 k l2 true a0_0 l0_1 a1_0 l1_1) = some r := by rw [if_neg (show ¬ (false = true) by decide)] at H;exact H
   clear H
   have H := H1
   clear H1
   have H' := Aside0.mk H
   clear H
   as_aux_lemma =>
    go_wp2_with (first|((with_reducible refine gate_callee (f := 10) rfl ?_);refine goesL_ (some 18) rfl rfl Try.func10 (by kernel_rfl) rfl #[] rfl (by (try simp only [List.map_toArray, List.map_cons, List.map_nil]);first | done | rfl | (simp only [List.length_drop, List.length_take];rfl)) ?_;(with_reducible refine (galoislaw27_awake.calls  false _ A7.out).mono ?_);rintro e w29 ⟨rfl, hb⟩;refine ⟨_, rfl, ?_⟩;have n0_ := Aside0.mk (blk_below (g := gb138) (o := .cells #[.int .i64 a0_0, .slice A0_1 l0_1.length c0_1] 24 (0, 0)) (by (with_reducible repeat (first|refine blk_drewN ?_ _ | refine blk_drew ?_ | refine blk_alloc ?_ _));exact BK138.out) hb);have n1_ := Aside0.mk (blk_below (g := gb139) (o := .cells #[.int .i64 a1_0, .slice A1_1 l1_1.length c1_1] 24 (0, 0)) (by (with_reducible repeat (first|refine blk_drewN ?_ _ | refine blk_drew ?_ | refine blk_alloc ?_ _));exact BK139.out) hb);have n2_ := Aside0.mk (below_step (by repeat (first|(with_reducible first | exact HB.out | apply below_alloc | apply pw_below_drewN | apply below_drew1 | refine below_set ?_ GE138.out | refine below_set ?_ GE139.out) | exact HB.out)) hb);clear BK138;clear BK139;clear HB;have BK138 := n0_;have BK139 := n1_;have HB := n2_;clear n0_ n1_ n2_;(try clear hb);(try clear hb2);(try clear hk);(try clear hi)))
    go_meet
    case rel => exact ⟨_, (true), (by first | rfl | (simp;done) | (simp [*];done)), H', ⟨by first | omega | exact Nat.le_refl _⟩, ⟨by (with_reducible repeat (first|refine blk_drewN ?_ _ | refine blk_drew ?_ | refine blk_alloc ?_ _));exact BK138.out⟩, ⟨by (with_reducible repeat (first|refine blk_drewN ?_ _ | refine blk_drew ?_ | refine blk_alloc ?_ _));exact BK139.out⟩, ⟨by repeat (first|(with_reducible first | exact HB.out | apply below_alloc | apply pw_below_drewN | apply below_drew1 | refine below_set ?_ GE138.out | refine below_set ?_ GE139.out) | exact HB.out)⟩⟩
 case rest =>
  clear HC4
  try clear c1
  try clear c2
  try clear p2
  try clear c4
  try clear c8
  try clear c10
  try clear c12
  try clear c16
  try clear c18
  try clear c24
  try clear hcz13_0
  try clear hcz13_1
  try clear hcz19_0
  try clear hcz19_1
  try clear hcz21_0
  try clear hcz21_1
  try clear hcz25_0
  try clear hcz25_1
  try clear hcz27_0
  try clear hcz27_1
  try clear hfz13_0
  try clear hfz13_1
  try clear hfz19_0
  try clear hfz19_1
  try clear hfz21_0
  try clear hfz21_1
  try clear hfz25_0
  try clear hfz25_1
  try clear hfz27_0
  try clear hfz27_1
  obtain ⟨kq, x32_3, rfl, HA, HJ3, BK138, BK139, HB⟩ := hcut
  cases kq with
  | zero => exact absurd HA.out (by simp [galoislaw27_CosetForms.j0])
  | succ kj3 =>
   have H := HA.out
   clear HA
   simp only [galoislaw27_CosetForms.j0] at H
   by_cases c30 : x32_3 = true
   ·subst c30
    have H1 : ((galoislaw27_awake.f).bind fun t143 => (some t143)) = some r := by rw [if_pos rfl] at H;exact H
    clear H
    have H := H1
    clear H1
    replace H := Option.bind_eq_some_iff.mp H
    obtain ⟨t143, A310, H⟩ := H
    replace H : (some t143) = some r := H
    have A31 := Aside0.mk A310
    clear A310
    obtain rfl := Option.some.inj H
    as_aux_lemma =>
     go_wp2_with (first|((with_reducible refine gate_callee (f := 10) rfl ?_);refine goesL_ (some 33) rfl rfl Try.func10 (by kernel_rfl) rfl #[] rfl (by (try simp only [List.map_toArray, List.map_cons, List.map_nil]);first | done | rfl | (simp only [List.length_drop, List.length_take];rfl)) ?_;(with_reducible refine (galoislaw27_awake.calls  t143 _ A31.out).mono ?_);rintro e w32 ⟨rfl, hb⟩;refine ⟨_, rfl, ?_⟩;have n0_ := Aside0.mk (blk_below (g := gb138) (o := .cells #[.int .i64 a0_0, .slice A0_1 l0_1.length c0_1] 24 (0, 0)) (by (with_reducible repeat (first|refine blk_drewN ?_ _ | refine blk_drew ?_ | refine blk_alloc ?_ _));exact BK138.out) hb);have n1_ := Aside0.mk (blk_below (g := gb139) (o := .cells #[.int .i64 a1_0, .slice A1_1 l1_1.length c1_1] 24 (0, 0)) (by (with_reducible repeat (first|refine blk_drewN ?_ _ | refine blk_drew ?_ | refine blk_alloc ?_ _));exact BK139.out) hb);have n2_ := Aside0.mk (below_step (by repeat (first|(with_reducible first | exact HB.out | apply below_alloc | apply pw_below_drewN | apply below_drew1 | refine below_set ?_ GE138.out | refine below_set ?_ GE139.out) | exact HB.out)) hb);clear BK138;clear BK139;clear HB;have BK138 := n0_;have BK139 := n1_;have HB := n2_;clear n0_ n1_ n2_;(try clear hb);(try clear hb2);(try clear hk);(try clear hi)))
     go_ret
     exact ⟨by first | rfl | (simp [errW_none, errW_some] <;> rfl) | (simp [*, errW_none, errW_some] <;> rfl), by repeat (first|(with_reducible first | exact HB.out | apply below_alloc | apply pw_below_drewN | apply below_drew1 | refine below_set ?_ GE138.out | refine below_set ?_ GE139.out) | exact HB.out)⟩
   ·replace c30 := Bool.eq_false_iff.mpr c30
    subst c30
    have H1 : ((coset_Index.f kj3 a0_0 l0_1 a1_0 l1_1).bind fun bt144 => ((coset_Representatives.f kj3 a0_0 l0_1 a1_0 l1_1).bind fun bt146 => ((coset_Find.f kj3 a0_0 l0_1 a1_0 l1_1 l2).bind fun bt150 => ((galoislaw27_groups.f kj3 a0_0 l0_1 a1_0 l1_1).bind fun bt152 => ((galoisref23_Two.f kj3 a0_0 l0_1 a1_0 l1_1).bind fun t159 => (if t159 = 0 then ((galoisref23_With.f kj3 a0_0 l0_1 l2).bind fun t160 => (galoislaw27_CosetForms.j1 kj3 l2 bt144.1 bt144.2 bt146.1 bt146.2 bt150.1 bt150.2 bt152.1 bt152.2.1 bt152.2.2 t160)) else (galoislaw27_CosetForms.j1 kj3 l2 bt144.1 bt144.2 bt146.1 bt146.2 bt150.1 bt150.2 bt152.1 bt152.2.1 bt152.2.2 t159))))))) = some r := by rw [if_neg (show ¬ (false = true) by decide)] at H;exact H
    clear H
    have H := H1
    clear H1
    replace H := Option.bind_eq_some_iff.mp H
    obtain ⟨⟨t144, t145⟩, A330, H⟩ := H
    replace H : ((coset_Representatives.f kj3 a0_0 l0_1 a1_0 l1_1).bind fun bt146 => ((coset_Find.f kj3 a0_0 l0_1 a1_0 l1_1 l2).bind fun bt150 => ((galoislaw27_groups.f kj3 a0_0 l0_1 a1_0 l1_1).bind fun bt152 => ((galoisref23_Two.f kj3 a0_0 l0_1 a1_0 l1_1).bind fun t159 => (if t159 = 0 then ((galoisref23_With.f kj3 a0_0 l0_1 l2).bind fun t160 => (galoislaw27_CosetForms.j1 kj3 l2 t144 t145 bt146.1 bt146.2 bt150.1 bt150.2 bt152.1 bt152.2.1 bt152.2.2 t160)) else (galoislaw27_CosetForms.j1 kj3 l2 t144 t145 bt146.1 bt146.2 bt150.1 bt150.2 bt152.1 bt152.2.1 bt152.2.2 t159)))))) = some r := H
    have A33 := Aside0.mk A330
    clear A330
    replace H := Option.bind_eq_some_iff.mp H
    obtain ⟨⟨t146, t149⟩, A340, H⟩ := H
    replace H : ((coset_Find.f kj3 a0_0 l0_1 a1_0 l1_1 l2).bind fun bt150 => ((galoislaw27_groups.f kj3 a0_0 l0_1 a1_0 l1_1).bind fun bt152 => ((galoisref23_Two.f kj3 a0_0 l0_1 a1_0 l1_1).bind fun t159 => (if t159 = 0 then ((galoisref23_With.f kj3 a0_0 l0_1 l2).bind fun t160 => (galoislaw27_CosetForms.j1 kj3 l2 t144 t145 t146 t149 bt150.1 bt150.2 bt152.1 bt152.2.1 bt152.2.2 t160)) else (galoislaw27_CosetForms.j1 kj3 l2 t144 t145 t146 t149 bt150.1 bt150.2 bt152.1 bt152.2.1 bt152.2.2 t159))))) = some r := H
    have A34 := Aside0.mk A340
    clear A340
    replace H := Option.bind_eq_some_iff.mp H
    obtain ⟨⟨t150, t151⟩, A350, H⟩ := H
    replace H : ((galoislaw27_groups.f kj3 a0_0 l0_1 a1_0 l1_1).bind fun bt152 => ((galoisref23_Two.f kj3 a0_0 l0_1 a1_0 l1_1).bind fun t159 => (if t159 = 0 then ((galoisref23_With.f kj3 a0_0 l0_1 l2).bind fun t160 => (galoislaw27_CosetForms.j1 kj3 l2 t144 t145 t146 t149 t150 t151 bt152.1 bt152.2.1 bt152.2.2 t160)) else (galoislaw27_CosetForms.j1 kj3 l2 t144 t145 t146 t149 t150 t151 bt152.1 bt152.2.1 bt152.2.2 t159)))) = some r := H
    have A35 := Aside0.mk A350
    clear A350
    replace H := Option.bind_eq_some_iff.mp H
    obtain ⟨⟨t152, t155, t158⟩, A360, H⟩ := H
    replace H : ((galoisref23_Two.f kj3 a0_0 l0_1 a1_0 l1_1).bind fun t159 => (if t159 = 0 then ((galoisref23_With.f kj3 a0_0 l0_1 l2).bind fun t160 => (galoislaw27_CosetForms.j1 kj3 l2 t144 t145 t146 t149 t150 t151 t152 t155 t158 t160)) else (galoislaw27_CosetForms.j1 kj3 l2 t144 t145 t146 t149 t150 t151 t152 t155 t158 t159))) = some r := H
    have A36 := Aside0.mk A360
    clear A360
    replace H := Option.bind_eq_some_iff.mp H
    obtain ⟨t159, A370, H⟩ := H
    replace H : (if t159 = 0 then ((galoisref23_With.f kj3 a0_0 l0_1 l2).bind fun t160 => (galoislaw27_CosetForms.j1 kj3 l2 t144 t145 t146 t149 t150 t151 t152 t155 t158 t160)) else (galoislaw27_CosetForms.j1 kj3 l2 t144 t145 t146 t149 t150 t151 t152 t155 t158 t159)) = some r := H
    have A37 := Aside0.mk A370
    clear A370
    have HC38 := Aside0.mk H
    clear H
    have hnb39 := NB138_139.out
    have hnc39 := NB139_138.out
    have hcz40_0 : wc.cell? ⟨gb138, 0, none⟩ = some (.int .i64 a0_0) := (blk_cell BK138.out 0).trans rfl
    have hcz40_1 : wc.cell? ⟨gb138, 1, none⟩ = some (.slice A0_1 l0_1.length c0_1) := (blk_cell BK138.out 1).trans rfl
    have hfz40_0 := blk_frozen BK138.out 0
    have hfz40_1 := blk_frozen BK138.out 1
    have hcz41_0 : wc.cell? ⟨gb139, 0, none⟩ = some (.int .i64 a1_0) := (blk_cell BK139.out 0).trans rfl
    have hcz41_1 : wc.cell? ⟨gb139, 1, none⟩ = some (.slice A1_1 l1_1.length c1_1) := (blk_cell BK139.out 1).trans rfl
    have hfz41_0 := blk_frozen BK139.out 0
    have hfz41_1 := blk_frozen BK139.out 1
    go_upto_if 64 with (first|((with_reducible refine gate_callee (f := 21) rfl ?_);refine goesL_ (some 37) rfl rfl Try.func21 (by kernel_rfl) rfl #[.agg #[.int .i64 a0_0, .slice A0_1 l0_1.length c0_1], .agg #[.int .i64 a1_0, .slice A1_1 l1_1.length c1_1]] rfl (by (try simp only [List.map_toArray, List.map_cons, List.map_nil]);first | done | rfl | (simp only [List.length_drop, List.length_take];rfl)) ?_;(with_reducible refine (coset_Index.calls kj3 a0_0 _ _ l0_1 a1_0 _ _ l1_1 t144 t145 _ ?side1 ?side2 ?side3 ?side4 A33.out).mono ?_);(case side1 => repeat (first|exact (Kd.C_below HR0_1.out HB.out) | (with_reducible refine Kd.C_alloc ?_ _) | (with_reducible refine Kd.C_drewN ?_ _) | (with_reducible refine Kd.C_drew ?_)));(case side2 => exact HC0_1.out);(case side3 => repeat (first|exact (Kd.C_below HR1_1.out HB.out) | (with_reducible refine Kd.C_alloc ?_ _) | (with_reducible refine Kd.C_drewN ?_ _) | (with_reducible refine Kd.C_drew ?_)));(case side4 => exact HC1_1.out);rintro e w42 ⟨rfl, hb⟩;refine ⟨_, rfl, ?_⟩;have n0_ := Aside0.mk (blk_below (g := gb138) (o := .cells #[.int .i64 a0_0, .slice A0_1 l0_1.length c0_1] 24 (0, 0)) (by (with_reducible repeat (first|refine blk_drewN ?_ _ | refine blk_drew ?_ | refine blk_alloc ?_ _));exact BK138.out) hb);have n1_ := Aside0.mk (blk_below (g := gb139) (o := .cells #[.int .i64 a1_0, .slice A1_1 l1_1.length c1_1] 24 (0, 0)) (by (with_reducible repeat (first|refine blk_drewN ?_ _ | refine blk_drew ?_ | refine blk_alloc ?_ _));exact BK139.out) hb);have n2_ := Aside0.mk (below_step (by repeat (first|(with_reducible first | exact HB.out | apply below_alloc | apply pw_below_drewN | apply below_drew1 | refine below_set ?_ GE138.out | refine below_set ?_ GE139.out) | exact HB.out)) hb);clear BK138;clear BK139;clear HB;have BK138 := n0_;have BK139 := n1_;have HB := n2_;clear n0_ n1_ n2_;(try clear hb);(try clear hb2);(try clear hk);(try clear hi);have hcz43_0 : w42.cell? ⟨gb138, 0, none⟩ = some (.int .i64 a0_0) := (blk_cell BK138.out 0).trans rfl;have hcz43_1 : w42.cell? ⟨gb138, 1, none⟩ = some (.slice A0_1 l0_1.length c0_1) := (blk_cell BK138.out 1).trans rfl;have hfz43_0 := blk_frozen BK138.out 0;have hfz43_1 := blk_frozen BK138.out 1;have hcz44_0 : w42.cell? ⟨gb139, 0, none⟩ = some (.int .i64 a1_0) := (blk_cell BK139.out 0).trans rfl;have hcz44_1 : w42.cell? ⟨gb139, 1, none⟩ = some (.slice A1_1 l1_1.length c1_1) := (blk_cell BK139.out 1).trans rfl;have hfz44_0 := blk_frozen BK139.out 0;have hfz44_1 := blk_frozen BK139.out 1) | ((with_reducible refine gate_callee (f := 22) rfl ?_);refine goesL_ (some 43) rfl rfl Try.func22 (by kernel_rfl) rfl #[.agg #[.int .i64 a0_0, .slice A0_1 l0_1.length c0_1], .agg #[.int .i64 a1_0, .slice A1_1 l1_1.length c1_1]] rfl (by (try simp only [List.map_toArray, List.map_cons, List.map_nil]);first | done | rfl | (simp only [List.length_drop, List.length_take];rfl)) ?_;(with_reducible refine (coset_Representatives.calls kj3 a0_0 _ _ l0_1 a1_0 _ _ l1_1 t146 t149 _ ?side1 ?side2 ?side3 ?side4 A34.out).mono ?_);(case side1 => repeat (first|exact (Kd.C_below HR0_1.out HB.out) | (with_reducible refine Kd.C_alloc ?_ _) | (with_reducible refine Kd.C_drewN ?_ _) | (with_reducible refine Kd.C_drew ?_)));(case side2 => exact HC0_1.out);(case side3 => repeat (first|exact (Kd.C_below HR1_1.out HB.out) | (with_reducible refine Kd.C_alloc ?_ _) | (with_reducible refine Kd.C_drewN ?_ _) | (with_reducible refine Kd.C_drew ?_)));(case side4 => exact HC1_1.out);rintro e w45 ⟨v147, rfl, ho0, hb⟩;refine ⟨_, rfl, ?_⟩;have n0_ := Aside0.mk (Kd.N_lower (Kd.N_mono (ok' := fun k_ => k_ ≠ gb138 ∧ k_ ≠ gb139) (Kd.S_N (Kd.S_bound ho0)) (fun k_ hk_ => ⟨(Kd.freshB (g := gb138) (o := .cells #[.int .i64 a0_0, .slice A0_1 l0_1.length c0_1] 24 (0, 0)) (by (with_reducible repeat (first|refine blk_drewN ?_ _ | refine blk_drew ?_ | refine blk_alloc ?_ _));exact BK138.out) k_ hk_.2.1), (Kd.freshB (g := gb139) (o := .cells #[.int .i64 a1_0, .slice A1_1 l1_1.length c1_1] 24 (0, 0)) (by (with_reducible repeat (first|refine blk_drewN ?_ _ | refine blk_drew ?_ | refine blk_alloc ?_ _));exact BK139.out) k_ hk_.2.1)⟩)) (below_size (by repeat (first|(with_reducible first | exact HB.out | apply below_alloc | apply pw_below_drewN | apply below_drew1 | refine below_set ?_ GE138.out | refine below_set ?_ GE139.out) | exact HB.out))));have n1_ := Aside0.mk (blk_below (g := gb138) (o := .cells #[.int .i64 a0_0, .slice A0_1 l0_1.length c0_1] 24 (0, 0)) (by (with_reducible repeat (first|refine blk_drewN ?_ _ | refine blk_drew ?_ | refine blk_alloc ?_ _));exact BK138.out) hb);have n2_ := Aside0.mk (blk_below (g := gb139) (o := .cells #[.int .i64 a1_0, .slice A1_1 l1_1.length c1_1] 24 (0, 0)) (by (with_reducible repeat (first|refine blk_drewN ?_ _ | refine blk_drew ?_ | refine blk_alloc ?_ _));exact BK139.out) hb);have n3_ := Aside0.mk (below_step (by repeat (first|(with_reducible first | exact HB.out | apply below_alloc | apply pw_below_drewN | apply below_drew1 | refine below_set ?_ GE138.out | refine below_set ?_ GE139.out) | exact HB.out)) hb);clear BK138;clear BK139;clear HB;have HO148 := n0_;have BK138 := n1_;have BK139 := n2_;have HB := n3_;clear n0_ n1_ n2_ n3_;(try clear hb);(try clear hb2);(try clear hk);(try clear hi);(try clear ho0);have hcz46_0 : w45.cell? ⟨gb138, 0, none⟩ = some (.int .i64 a0_0) := (blk_cell BK138.out 0).trans rfl;have hcz46_1 : w45.cell? ⟨gb138, 1, none⟩ = some (.slice A0_1 l0_1.length c0_1) := (blk_cell BK138.out 1).trans rfl;have hfz46_0 := blk_frozen BK138.out 0;have hfz46_1 := blk_frozen BK138.out 1;have hcz47_0 : w45.cell? ⟨gb139, 0, none⟩ = some (.int .i64 a1_0) := (blk_cell BK139.out 0).trans rfl;have hcz47_1 : w45.cell? ⟨gb139, 1, none⟩ = some (.slice A1_1 l1_1.length c1_1) := (blk_cell BK139.out 1).trans rfl;have hfz47_0 := blk_frozen BK139.out 0;have hfz47_1 := blk_frozen BK139.out 1) | ((with_reducible refine gate_callee (f := 23) rfl ?_);refine goesL_ (some 50) rfl rfl Try.func23 (by kernel_rfl) rfl #[.agg #[.int .i64 a0_0, .slice A0_1 l0_1.length c0_1], .agg #[.int .i64 a1_0, .slice A1_1 l1_1.length c1_1], .slice A2 l2.length c2] rfl (by (try simp only [List.map_toArray, List.map_cons, List.map_nil]);first | done | rfl | (simp only [List.length_drop, List.length_take];rfl)) ?_;(with_reducible refine (coset_Find.calls kj3 a0_0 _ _ l0_1 a1_0 _ _ l1_1 _ _ l2 t150 t151 _ ?side1 ?side2 ?side3 ?side4 ?side5 ?side6 A35.out).mono ?_);(case side1 => repeat (first|exact (Kd.C_below HR0_1.out HB.out) | (with_reducible refine Kd.C_alloc ?_ _) | (with_reducible refine Kd.C_drewN ?_ _) | (with_reducible refine Kd.C_drew ?_)));(case side2 => exact HC0_1.out);(case side3 => repeat (first|exact (Kd.C_below HR1_1.out HB.out) | (with_reducible refine Kd.C_alloc ?_ _) | (with_reducible refine Kd.C_drewN ?_ _) | (with_reducible refine Kd.C_drew ?_)));(case side4 => exact HC1_1.out);(case side5 => repeat (first|exact (Kd.C_below HR2.out HB.out) | (with_reducible refine Kd.C_alloc ?_ _) | (with_reducible refine Kd.C_drewN ?_ _) | (with_reducible refine Kd.C_drew ?_)));(case side6 => exact HC2.out);rintro e w48 ⟨rfl, hb⟩;refine ⟨_, rfl, ?_⟩;have n0_ := Aside0.mk (Kd.N_below (by (with_reducible repeat (first|apply Kd.N_alloc | apply Kd.N_drewN | apply Kd.N_drew));exact HO148.out) hb);have n1_ := Aside0.mk (blk_below (g := gb138) (o := .cells #[.int .i64 a0_0, .slice A0_1 l0_1.length c0_1] 24 (0, 0)) (by (with_reducible repeat (first|refine blk_drewN ?_ _ | refine blk_drew ?_ | refine blk_alloc ?_ _));exact BK138.out) hb);have n2_ := Aside0.mk (blk_below (g := gb139) (o := .cells #[.int .i64 a1_0, .slice A1_1 l1_1.length c1_1] 24 (0, 0)) (by (with_reducible repeat (first|refine blk_drewN ?_ _ | refine blk_drew ?_ | refine blk_alloc ?_ _));exact BK139.out) hb);have n3_ := Aside0.mk (below_step (by repeat (first|(with_reducible first | exact HB.out | apply below_alloc | apply pw_below_drewN | apply below_drew1 | refine below_set ?_ GE138.out | refine below_set ?_ GE139.out) | exact HB.out)) hb);clear HO148;clear BK138;clear BK139;clear HB;have HO148 := n0_;have BK138 := n1_;have BK139 := n2_;have HB := n3_;clear n0_ n1_ n2_ n3_;(try clear hb);(try clear hb2);(try clear hk);(try clear hi);have hcz49_0 : w48.cell? ⟨gb138, 0, none⟩ = some (.int .i64 a0_0) := (blk_cell BK138.out 0).trans rfl;have hcz49_1 : w48.cell? ⟨gb138, 1, none⟩ = some (.slice A0_1 l0_1.length c0_1) := (blk_cell BK138.out 1).trans rfl;have hfz49_0 := blk_frozen BK138.out 0;have hfz49_1 := blk_frozen BK138.out 1;have hcz50_0 : w48.cell? ⟨gb139, 0, none⟩ = some (.int .i64 a1_0) := (blk_cell BK139.out 0).trans rfl;have hcz50_1 : w48.cell? ⟨gb139, 1, none⟩ = some (.slice A1_1 l1_1.length c1_1) := (blk_cell BK139.out 1).trans rfl;have hfz50_0 := blk_frozen BK139.out 0;have hfz50_1 := blk_frozen BK139.out 1) | ((with_reducible refine gate_callee (f := 18) rfl ?_);refine goesL_ (some 56) rfl rfl Try.func18 (by kernel_rfl) rfl #[.agg #[.int .i64 a0_0, .slice A0_1 l0_1.length c0_1], .agg #[.int .i64 a1_0, .slice A1_1 l1_1.length c1_1]] rfl (by (try simp only [List.map_toArray, List.map_cons, List.map_nil]);first | done | rfl | (simp only [List.length_drop, List.length_take];rfl)) ?_;(with_reducible refine (galoislaw27_groups.calls kj3 a0_0 _ _ l0_1 a1_0 _ _ l1_1 t152 t155 t158 _ ?side1 ?side2 ?side3 ?side4 A36.out).mono ?_);(case side1 => repeat (first|exact (Kd.C_below HR0_1.out HB.out) | (with_reducible refine Kd.C_alloc ?_ _) | (with_reducible refine Kd.C_drewN ?_ _) | (with_reducible refine Kd.C_drew ?_)));(case side2 => exact HC0_1.out);(case side3 => repeat (first|exact (Kd.C_below HR1_1.out HB.out) | (with_reducible refine Kd.C_alloc ?_ _) | (with_reducible refine Kd.C_drewN ?_ _) | (with_reducible refine Kd.C_drew ?_)));(case side4 => exact HC1_1.out);rintro e w51 ⟨v153, v156, rfl, ho0, ho1, hb⟩;refine ⟨_, rfl, ?_⟩;have n0_ := Aside0.mk (Kd.N_mono (Kd.N_told (Kd.N_told (Kd.N_old (by (with_reducible repeat (first|apply Kd.N_alloc | apply Kd.N_drewN | apply Kd.N_drew));exact HO148.out) hb) (by first | exact Kd.N_base ho0 | exact Kd.S_base ho0 | exact Kd.R_base ho0)) (by first | exact Kd.N_base ho1 | exact Kd.S_base ho1 | exact Kd.R_base ho1)) (fun _ h_ => h_.1));have n1_ := Aside0.mk (Kd.N_lower (Kd.N_mono (ok' := fun k_ => some k_ ≠ (v156 : Value).ownBlock ∧ some k_ ≠ (v147 : Value).ownBlock ∧ k_ ≠ gb138 ∧ k_ ≠ gb139) (Kd.S_N (Kd.S_bound ho0)) (fun k_ hk_ => ⟨hk_.1, (Kd.fresh' (Kd.N_lt (by (with_reducible repeat (first|apply Kd.N_alloc | apply Kd.N_drewN | apply Kd.N_drew));exact HO148.out)) k_ hk_.2.1), (Kd.freshB (g := gb138) (o := .cells #[.int .i64 a0_0, .slice A0_1 l0_1.length c0_1] 24 (0, 0)) (by (with_reducible repeat (first|refine blk_drewN ?_ _ | refine blk_drew ?_ | refine blk_alloc ?_ _));exact BK138.out) k_ hk_.2.1), (Kd.freshB (g := gb139) (o := .cells #[.int .i64 a1_0, .slice A1_1 l1_1.length c1_1] 24 (0, 0)) (by (with_reducible repeat (first|refine blk_drewN ?_ _ | refine blk_drew ?_ | refine blk_alloc ?_ _));exact BK139.out) k_ hk_.2.1)⟩)) (below_size (by repeat (first|(with_reducible first | exact HB.out | apply below_alloc | apply pw_below_drewN | apply below_drew1 | refine below_set ?_ GE138.out | refine below_set ?_ GE139.out) | exact HB.out))));have n2_ := Aside0.mk (Kd.N_lower (Kd.N_mono (ok' := fun k_ => some k_ ≠ (v153 : Value).ownBlock ∧ some k_ ≠ (v147 : Value).ownBlock ∧ k_ ≠ gb138 ∧ k_ ≠ gb139) (Kd.S_N (Kd.S_bound ho1)) (fun k_ hk_ => ⟨hk_.1, (Kd.fresh' (Kd.N_lt (by (with_reducible repeat (first|apply Kd.N_alloc | apply Kd.N_drewN | apply Kd.N_drew));exact HO148.out)) k_ hk_.2.1), (Kd.freshB (g := gb138) (o := .cells #[.int .i64 a0_0, .slice A0_1 l0_1.length c0_1] 24 (0, 0)) (by (with_reducible repeat (first|refine blk_drewN ?_ _ | refine blk_drew ?_ | refine blk_alloc ?_ _));exact BK138.out) k_ hk_.2.1), (Kd.freshB (g := gb139) (o := .cells #[.int .i64 a1_0, .slice A1_1 l1_1.length c1_1] 24 (0, 0)) (by (with_reducible repeat (first|refine blk_drewN ?_ _ | refine blk_drew ?_ | refine blk_alloc ?_ _));exact BK139.out) k_ hk_.2.1)⟩)) (below_size (by repeat (first|(with_reducible first | exact HB.out | apply below_alloc | apply pw_below_drewN | apply below_drew1 | refine below_set ?_ GE138.out | refine below_set ?_ GE139.out) | exact HB.out))));have n3_ := Aside0.mk (blk_below (g := gb138) (o := .cells #[.int .i64 a0_0, .slice A0_1 l0_1.length c0_1] 24 (0, 0)) (by (with_reducible repeat (first|refine blk_drewN ?_ _ | refine blk_drew ?_ | refine blk_alloc ?_ _));exact BK138.out) hb);have n4_ := Aside0.mk (blk_below (g := gb139) (o := .cells #[.int .i64 a1_0, .slice A1_1 l1_1.length c1_1] 24 (0, 0)) (by (with_reducible repeat (first|refine blk_drewN ?_ _ | refine blk_drew ?_ | refine blk_alloc ?_ _));exact BK139.out) hb);have n5_ := Aside0.mk (below_step (by repeat (first|(with_reducible first | exact HB.out | apply below_alloc | apply pw_below_drewN | apply below_drew1 | refine below_set ?_ GE138.out | refine below_set ?_ GE139.out) | exact HB.out)) hb);clear HO148;clear BK138;clear BK139;clear HB;have HO148 := n0_;have HO154 := n1_;have HO157 := n2_;have BK138 := n3_;have BK139 := n4_;have HB := n5_;clear n0_ n1_ n2_ n3_ n4_ n5_;(try clear hb);(try clear hb2);(try clear hk);(try clear hi);(try clear ho0);(try clear ho1);have hcz52_0 : w51.cell? ⟨gb138, 0, none⟩ = some (.int .i64 a0_0) := (blk_cell BK138.out 0).trans rfl;have hcz52_1 : w51.cell? ⟨gb138, 1, none⟩ = some (.slice A0_1 l0_1.length c0_1) := (blk_cell BK138.out 1).trans rfl;have hfz52_0 := blk_frozen BK138.out 0;have hfz52_1 := blk_frozen BK138.out 1;have hcz53_0 : w51.cell? ⟨gb139, 0, none⟩ = some (.int .i64 a1_0) := (blk_cell BK139.out 0).trans rfl;have hcz53_1 : w51.cell? ⟨gb139, 1, none⟩ = some (.slice A1_1 l1_1.length c1_1) := (blk_cell BK139.out 1).trans rfl;have hfz53_0 := blk_frozen BK139.out 0;have hfz53_1 := blk_frozen BK139.out 1) | ((with_reducible refine gate_callee (f := 24) rfl ?_);refine goesL_ (some 62) rfl rfl Try.func24 (by kernel_rfl) rfl #[.agg #[.int .i64 a0_0, .slice A0_1 l0_1.length c0_1], .agg #[.int .i64 a1_0, .slice A1_1 l1_1.length c1_1]] rfl (by (try simp only [List.map_toArray, List.map_cons, List.map_nil]);first | done | rfl | (simp only [List.length_drop, List.length_take];rfl)) ?_;(with_reducible refine (galoisref23_Two.calls kj3 a0_0 _ _ l0_1 a1_0 _ _ l1_1 t159 _ ?side1 ?side2 ?side3 ?side4 A37.out).mono ?_);(case side1 => repeat (first|exact (Kd.C_below HR0_1.out HB.out) | (with_reducible refine Kd.C_alloc ?_ _) | (with_reducible refine Kd.C_drewN ?_ _) | (with_reducible refine Kd.C_drew ?_)));(case side2 => exact HC0_1.out);(case side3 => repeat (first|exact (Kd.C_below HR1_1.out HB.out) | (with_reducible refine Kd.C_alloc ?_ _) | (with_reducible refine Kd.C_drewN ?_ _) | (with_reducible refine Kd.C_drew ?_)));(case side4 => exact HC1_1.out);rintro e w54 ⟨rfl, hb⟩;refine ⟨_, rfl, ?_⟩;have n0_ := Aside0.mk (Kd.N_below (by (with_reducible repeat (first|apply Kd.N_alloc | apply Kd.N_drewN | apply Kd.N_drew));exact HO148.out) hb);have n1_ := Aside0.mk (Kd.N_below (by (with_reducible repeat (first|apply Kd.N_alloc | apply Kd.N_drewN | apply Kd.N_drew));exact HO154.out) hb);have n2_ := Aside0.mk (Kd.N_below (by (with_reducible repeat (first|apply Kd.N_alloc | apply Kd.N_drewN | apply Kd.N_drew));exact HO157.out) hb);have n3_ := Aside0.mk (blk_below (g := gb138) (o := .cells #[.int .i64 a0_0, .slice A0_1 l0_1.length c0_1] 24 (0, 0)) (by (with_reducible repeat (first|refine blk_drewN ?_ _ | refine blk_drew ?_ | refine blk_alloc ?_ _));exact BK138.out) hb);have n4_ := Aside0.mk (blk_below (g := gb139) (o := .cells #[.int .i64 a1_0, .slice A1_1 l1_1.length c1_1] 24 (0, 0)) (by (with_reducible repeat (first|refine blk_drewN ?_ _ | refine blk_drew ?_ | refine blk_alloc ?_ _));exact BK139.out) hb);have n5_ := Aside0.mk (below_step (by repeat (first|(with_reducible first | exact HB.out | apply below_alloc | apply pw_below_drewN | apply below_drew1 | refine below_set ?_ GE138.out | refine below_set ?_ GE139.out) | exact HB.out)) hb);clear HO148;clear HO154;clear HO157;clear BK138;clear BK139;clear HB;have HO148 := n0_;have HO154 := n1_;have HO157 := n2_;have BK138 := n3_;have BK139 := n4_;have HB := n5_;clear n0_ n1_ n2_ n3_ n4_ n5_;(try clear hb);(try clear hb2);(try clear hk);(try clear hi)))
    (try simp only [Act.put, List.setIfInBounds_toArray, List.set_cons_zero, List.set_cons_succ])
    go_cut [16] (fun v16 wc => ∃ (kq : Nat) (x16_37 : Int), v16 = .int .i64 x16_37 ∧ Aside0 (galoislaw27_CosetForms.j1 kq l2 t144 t145 t146 t149 t150 t151 t152 t155 t158 x16_37 = some r) ∧ Aside0 (kq ≤ kj3) ∧ Aside0 (Kd.N (Kd.slice 3 (Kd.int .i64)) 43 wc w.heap.size (fun k_ => some k_ ≠ (v153 : Value).ownBlock ∧ some k_ ≠ (v156 : Value).ownBlock ∧ k_ ≠ gb138 ∧ k_ ≠ gb139) v147 t146) ∧ Aside0 (Kd.N (Kd.slice 3 (Kd.int .i64)) 43 wc w.heap.size (fun k_ => some k_ ≠ (v147 : Value).ownBlock ∧ some k_ ≠ (v156 : Value).ownBlock ∧ k_ ≠ gb138 ∧ k_ ≠ gb139) v153 t152) ∧ Aside0 (Kd.N (Kd.slice 3 (Kd.int .i64)) 43 wc w.heap.size (fun k_ => some k_ ≠ (v147 : Value).ownBlock ∧ some k_ ≠ (v153 : Value).ownBlock ∧ k_ ≠ gb138 ∧ k_ ≠ gb139) v156 t155) ∧ Aside0 (wc.heap[gb138]? = some (.cells #[.int .i64 a0_0, (.slice A0_1 l0_1.length c0_1)] 24 (0, 0))) ∧ Aside0 (wc.heap[gb139]? = some (.cells #[.int .i64 a1_0, (.slice A1_1 l1_1.length c1_1)] 24 (0, 0))) ∧ Aside0 (Below w.heap.size w wc))
    case first =>
     have H := HC38.out
     clear HC38
     by_cases c55 : t159 = 0
     ·rw [if_pos c55] at H
      have c55b0 : (t159 == 0) = true := beq_iff_eq.mpr c55
      have c55b1 : (t159 != 0) = false := bne_eq_false_iff_eq.mpr c55
      clear c55
      (first|rw [c55b0] | (simp only [i64_w, i32_w];rw [c55b0]) | skip)
      replace H := Option.bind_eq_some_iff.mp H
      obtain ⟨t160, A560, H⟩ := H
      replace H : (galoislaw27_CosetForms.j1 kj3 l2 t144 t145 t146 t149 t150 t151 t152 t155 t158 t160) = some r := H
      have A56 := Aside0.mk A560
      clear A560
      have H' := Aside0.mk H
      clear H
      have hnb57 := NB138_139.out
      have hnc57 := NB139_138.out
      have hcz58_0 : w54.cell? ⟨gb138, 0, none⟩ = some (.int .i64 a0_0) := (blk_cell BK138.out 0).trans rfl
      have hcz58_1 : w54.cell? ⟨gb138, 1, none⟩ = some (.slice A0_1 l0_1.length c0_1) := (blk_cell BK138.out 1).trans rfl
      have hfz58_0 := blk_frozen BK138.out 0
      have hfz58_1 := blk_frozen BK138.out 1
      as_aux_lemma =>
       go_wp2_with (first|((with_reducible refine gate_callee (f := 25) rfl ?_);refine goesL_ (some 67) rfl rfl Try.func25 (by kernel_rfl) rfl #[.agg #[.int .i64 a0_0, .slice A0_1 l0_1.length c0_1], .slice A2 l2.length c2] rfl (by (try simp only [List.map_toArray, List.map_cons, List.map_nil]);first | done | rfl | (simp only [List.length_drop, List.length_take];rfl)) ?_;(with_reducible refine (galoisref23_With.calls kj3 a0_0 _ _ l0_1 _ _ l2 t160 _ ?side1 ?side2 ?side3 ?side4 A56.out).mono ?_);(case side1 => repeat (first|exact (Kd.C_below HR0_1.out HB.out) | (with_reducible refine Kd.C_alloc ?_ _) | (with_reducible refine Kd.C_drewN ?_ _) | (with_reducible refine Kd.C_drew ?_)));(case side2 => exact HC0_1.out);(case side3 => repeat (first|exact (Kd.C_below HR2.out HB.out) | (with_reducible refine Kd.C_alloc ?_ _) | (with_reducible refine Kd.C_drewN ?_ _) | (with_reducible refine Kd.C_drew ?_)));(case side4 => exact HC2.out);rintro e w59 ⟨rfl, hb⟩;refine ⟨_, rfl, ?_⟩;have n0_ := Aside0.mk (Kd.N_below (by (with_reducible repeat (first|apply Kd.N_alloc | apply Kd.N_drewN | apply Kd.N_drew));exact HO148.out) hb);have n1_ := Aside0.mk (Kd.N_below (by (with_reducible repeat (first|apply Kd.N_alloc | apply Kd.N_drewN | apply Kd.N_drew));exact HO154.out) hb);have n2_ := Aside0.mk (Kd.N_below (by (with_reducible repeat (first|apply Kd.N_alloc | apply Kd.N_drewN | apply Kd.N_drew));exact HO157.out) hb);have n3_ := Aside0.mk (blk_below (g := gb138) (o := .cells #[.int .i64 a0_0, .slice A0_1 l0_1.length c0_1] 24 (0, 0)) (by (with_reducible repeat (first|refine blk_drewN ?_ _ | refine blk_drew ?_ | refine blk_alloc ?_ _));exact BK138.out) hb);have n4_ := Aside0.mk (blk_below (g := gb139) (o := .cells #[.int .i64 a1_0, .slice A1_1 l1_1.length c1_1] 24 (0, 0)) (by (with_reducible repeat (first|refine blk_drewN ?_ _ | refine blk_drew ?_ | refine blk_alloc ?_ _));exact BK139.out) hb);have n5_ := Aside0.mk (below_step (by repeat (first|(with_reducible first | exact HB.out | apply below_alloc | apply pw_below_drewN | apply below_drew1 | refine below_set ?_ GE138.out | refine below_set ?_ GE139.out) | exact HB.out)) hb);clear HO148;clear HO154;clear HO157;clear BK138;clear BK139;clear HB;have HO148 := n0_;have HO154 := n1_;have HO157 := n2_;have BK138 := n3_;have BK139 := n4_;have HB := n5_;clear n0_ n1_ n2_ n3_ n4_ n5_;(try clear hb);(try clear hb2);(try clear hk);(try clear hi)))
       go_meet
       case rel => exact ⟨_, (t160), (by first | rfl | (simp;done) | (simp [*];done)), H', ⟨by have := HJ3.out;first | omega | exact Nat.le_refl _⟩, ⟨by (with_reducible repeat (first|apply Kd.N_alloc | apply Kd.N_drewN | apply Kd.N_drew));exact Kd.N_mono HO148.out (fun _ hk => ⟨hk.1.2, ⟨hk.2, ⟨hk.1.1.1, hk.1.1.2⟩⟩⟩)⟩, ⟨by (with_reducible repeat (first|apply Kd.N_alloc | apply Kd.N_drewN | apply Kd.N_drew));exact Kd.N_mono HO154.out (fun _ hk => ⟨hk.2.1, ⟨hk.1, ⟨hk.2.2.1, hk.2.2.2⟩⟩⟩)⟩, ⟨by (with_reducible repeat (first|apply Kd.N_alloc | apply Kd.N_drewN | apply Kd.N_drew));exact Kd.N_mono HO157.out (fun _ hk => ⟨hk.2.1, ⟨hk.1, ⟨hk.2.2.1, hk.2.2.2⟩⟩⟩)⟩, ⟨by (with_reducible repeat (first|refine blk_drewN ?_ _ | refine blk_drew ?_ | refine blk_alloc ?_ _));exact BK138.out⟩, ⟨by (with_reducible repeat (first|refine blk_drewN ?_ _ | refine blk_drew ?_ | refine blk_alloc ?_ _));exact BK139.out⟩, ⟨by repeat (first|(with_reducible first | exact HB.out | apply below_alloc | apply pw_below_drewN | apply below_drew1 | refine below_set ?_ GE138.out | refine below_set ?_ GE139.out) | exact HB.out)⟩⟩
     ·rw [if_neg c55] at H
      have c55b0 : (t159 == 0) = false := beq_eq_false_iff_ne.mpr c55
      have c55b1 : (t159 != 0) = true := bne_iff_ne.mpr c55
      (first|rw [c55b0] | (simp only [i64_w, i32_w];rw [c55b0]) | skip)
      have H' := Aside0.mk H
      clear H
      as_aux_lemma =>
       go_wp2
       go_meet
       case rel => exact ⟨_, (t159), (by first | rfl | (simp;done) | (simp [*];done)), H', ⟨by have := HJ3.out;first | omega | exact Nat.le_refl _⟩, ⟨by (with_reducible repeat (first|apply Kd.N_alloc | apply Kd.N_drewN | apply Kd.N_drew));exact Kd.N_mono HO148.out (fun _ hk => ⟨hk.1.2, ⟨hk.2, ⟨hk.1.1.1, hk.1.1.2⟩⟩⟩)⟩, ⟨by (with_reducible repeat (first|apply Kd.N_alloc | apply Kd.N_drewN | apply Kd.N_drew));exact Kd.N_mono HO154.out (fun _ hk => ⟨hk.2.1, ⟨hk.1, ⟨hk.2.2.1, hk.2.2.2⟩⟩⟩)⟩, ⟨by (with_reducible repeat (first|apply Kd.N_alloc | apply Kd.N_drewN | apply Kd.N_drew));exact Kd.N_mono HO157.out (fun _ hk => ⟨hk.2.1, ⟨hk.1, ⟨hk.2.2.1, hk.2.2.2⟩⟩⟩)⟩, ⟨by (with_reducible repeat (first|refine blk_drewN ?_ _ | refine blk_drew ?_ | refine blk_alloc ?_ _));exact BK138.out⟩, ⟨by (with_reducible repeat (first|refine blk_drewN ?_ _ | refine blk_drew ?_ | refine blk_alloc ?_ _));exact BK139.out⟩, ⟨by repeat (first|(with_reducible first | exact HB.out | apply below_alloc | apply pw_below_drewN | apply below_drew1 | refine below_set ?_ GE138.out | refine below_set ?_ GE139.out) | exact HB.out)⟩⟩
    case rest =>
     clear HC38
     try clear c1
     try clear c2
     try clear p2
     try clear c3
     try clear c4
     try clear c5
     try clear c8
     try clear c10
     try clear c12
     try clear c16
     try clear c18
     try clear c21
     try clear c22
     try clear c23
     try clear c24
     try clear c25
     try clear c30
     try clear c39
     try clear c55
     try clear c55b0
     try clear c55b1
     try clear c57
     try clear hcz13_0
     try clear hcz13_1
     try clear hcz19_0
     try clear hcz19_1
     try clear hcz21_0
     try clear hcz21_1
     try clear hcz25_0
     try clear hcz25_1
     try clear hcz27_0
     try clear hcz27_1
     try clear hcz40_0
     try clear hcz40_1
     try clear hcz41_0
     try clear hcz41_1
     try clear hcz43_0
     try clear hcz43_1
     try clear hcz44_0
     try clear hcz44_1
     try clear hcz46_0
     try clear hcz46_1
     try clear hcz47_0
     try clear hcz47_1
     try clear hcz49_0
     try clear hcz49_1
     try clear hcz50_0
     try clear hcz50_1
     try clear hcz52_0
     try clear hcz52_1
     try clear hcz53_0
     try clear hcz53_1
     try clear hcz58_0
     try clear hcz58_1
     try clear hfz13_0
     try clear hfz13_1
     try clear hfz19_0
     try clear hfz19_1
     try clear hfz21_0
     try clear hfz21_1
     try clear hfz25_0
     try clear hfz25_1
     try clear hfz27_0
     try clear hfz27_1
     try clear hfz40_0
     try clear hfz40_1
     try clear hfz41_0
     try clear hfz41_1
     try clear hfz43_0
     try clear hfz43_1
     try clear hfz44_0
     try clear hfz44_1
     try clear hfz46_0
     try clear hfz46_1
     try clear hfz47_0
     try clear hfz47_1
     try clear hfz49_0
     try clear hfz49_1
     try clear hfz50_0
     try clear hfz50_1
     try clear hfz52_0
     try clear hfz52_1
     try clear hfz53_0
     try clear hfz53_1
     try clear hfz58_0
     try clear hfz58_1
     try clear p2
     obtain ⟨kq, x16_37, rfl, HA, HJ37, HO_9, HO_13, HO_14, BK138, BK139, HB⟩ := hcut
     cases kq with
     | zero => exact absurd HA.out (by simp [galoislaw27_CosetForms.j1])
     | succ kj37 =>
      have H := HA.out
      clear HA
      simp only [galoislaw27_CosetForms.j1] at H
      have HC60 := Aside0.mk H
      clear H
      go_upto_if 69 with (fail)
      go_cut [16] (fun v16 wc => ∃ (kq : Nat) (x16_59 : Int), v16 = .int .i64 x16_59 ∧ Aside0 (galoislaw27_CosetForms.j2 kq l2 t144 t145 t146 t149 t150 t151 t152 t155 t158 x16_59 = some r) ∧ Aside0 (kq ≤ kj37) ∧ Aside0 (Kd.N (Kd.slice 3 (Kd.int .i64)) 43 wc w.heap.size (fun k_ => some k_ ≠ (v153 : Value).ownBlock ∧ some k_ ≠ (v156 : Value).ownBlock ∧ k_ ≠ gb138 ∧ k_ ≠ gb139) v147 t146) ∧ Aside0 (Kd.N (Kd.slice 3 (Kd.int .i64)) 43 wc w.heap.size (fun k_ => some k_ ≠ (v147 : Value).ownBlock ∧ some k_ ≠ (v156 : Value).ownBlock ∧ k_ ≠ gb138 ∧ k_ ≠ gb139) v153 t152) ∧ Aside0 (Kd.N (Kd.slice 3 (Kd.int .i64)) 43 wc w.heap.size (fun k_ => some k_ ≠ (v147 : Value).ownBlock ∧ some k_ ≠ (v153 : Value).ownBlock ∧ k_ ≠ gb138 ∧ k_ ≠ gb139) v156 t155) ∧ Aside0 (wc.heap[gb138]? = some (.cells #[.int .i64 a0_0, (.slice A0_1 l0_1.length c0_1)] 24 (0, 0))) ∧ Aside0 (wc.heap[gb139]? = some (.cells #[.int .i64 a1_0, (.slice A1_1 l1_1.length c1_1)] 24 (0, 0))) ∧ Aside0 (Below w.heap.size w wc))
      case first =>
       have H := HC60.out
       clear HC60
       by_cases c61 : x16_37 = 0
       ·rw [if_pos c61] at H
        have c61b0 : (x16_37 == 0) = true := beq_iff_eq.mpr c61
        have c61b1 : (x16_37 != 0) = false := bne_eq_false_iff_eq.mpr c61
        clear c61
        (first|rw [c61b0] | (simp only [i64_w, i32_w];rw [c61b0]) | skip)
        have H' := Aside0.mk H
        clear H
        as_aux_lemma =>
         go_wp2
         go_meet
         case rel => exact ⟨_, (t158), (by first | rfl | (simp;done) | (simp [*];done)), H', ⟨by have := HJ3.out;have := HJ37.out;first | omega | exact Nat.le_refl _⟩, ⟨by (with_reducible repeat (first|apply Kd.N_alloc | apply Kd.N_drewN | apply Kd.N_drew));exact HO_9.out⟩, ⟨by (with_reducible repeat (first|apply Kd.N_alloc | apply Kd.N_drewN | apply Kd.N_drew));exact HO_13.out⟩, ⟨by (with_reducible repeat (first|apply Kd.N_alloc | apply Kd.N_drewN | apply Kd.N_drew));exact HO_14.out⟩, ⟨by (with_reducible repeat (first|refine blk_drewN ?_ _ | refine blk_drew ?_ | refine blk_alloc ?_ _));exact BK138.out⟩, ⟨by (with_reducible repeat (first|refine blk_drewN ?_ _ | refine blk_drew ?_ | refine blk_alloc ?_ _));exact BK139.out⟩, ⟨by repeat (first|(with_reducible first | exact HB.out | apply below_alloc | apply pw_below_drewN | apply below_drew1 | refine below_set ?_ GE138.out | refine below_set ?_ GE139.out) | exact HB.out)⟩⟩
       ·rw [if_neg c61] at H
        have c61b0 : (x16_37 == 0) = false := beq_eq_false_iff_ne.mpr c61
        have c61b1 : (x16_37 != 0) = true := bne_iff_ne.mpr c61
        (first|rw [c61b0] | (simp only [i64_w, i32_w];rw [c61b0]) | skip)
        have H' := Aside0.mk H
        clear H
        as_aux_lemma =>
         go_wp2
         go_meet
         case rel => exact ⟨_, (x16_37), (by first | rfl | (simp;done) | (simp [*];done)), H', ⟨by have := HJ3.out;have := HJ37.out;first | omega | exact Nat.le_refl _⟩, ⟨by (with_reducible repeat (first|apply Kd.N_alloc | apply Kd.N_drewN | apply Kd.N_drew));exact HO_9.out⟩, ⟨by (with_reducible repeat (first|apply Kd.N_alloc | apply Kd.N_drewN | apply Kd.N_drew));exact HO_13.out⟩, ⟨by (with_reducible repeat (first|apply Kd.N_alloc | apply Kd.N_drewN | apply Kd.N_drew));exact HO_14.out⟩, ⟨by (with_reducible repeat (first|refine blk_drewN ?_ _ | refine blk_drew ?_ | refine blk_alloc ?_ _));exact BK138.out⟩, ⟨by (with_reducible repeat (first|refine blk_drewN ?_ _ | refine blk_drew ?_ | refine blk_alloc ?_ _));exact BK139.out⟩, ⟨by repeat (first|(with_reducible first | exact HB.out | apply below_alloc | apply pw_below_drewN | apply below_drew1 | refine below_set ?_ GE138.out | refine below_set ?_ GE139.out) | exact HB.out)⟩⟩
      case rest =>
       clear HC60
       try clear c1
       try clear c2
       try clear p2
       try clear c3
       try clear c4
       try clear c5
       try clear c6
       try clear c8
       try clear c10
       try clear c12
       try clear c16
       try clear c18
       try clear c21
       try clear c22
       try clear c23
       try clear c24
       try clear c25
       try clear c30
       try clear c39
       try clear c55
       try clear c55b0
       try clear c55b1
       try clear c57
       try clear c61
       try clear c61b0
       try clear c61b1
       try clear hcz13_0
       try clear hcz13_1
       try clear hcz19_0
       try clear hcz19_1
       try clear hcz21_0
       try clear hcz21_1
       try clear hcz25_0
       try clear hcz25_1
       try clear hcz27_0
       try clear hcz27_1
       try clear hcz40_0
       try clear hcz40_1
       try clear hcz41_0
       try clear hcz41_1
       try clear hcz43_0
       try clear hcz43_1
       try clear hcz44_0
       try clear hcz44_1
       try clear hcz46_0
       try clear hcz46_1
       try clear hcz47_0
       try clear hcz47_1
       try clear hcz49_0
       try clear hcz49_1
       try clear hcz50_0
       try clear hcz50_1
       try clear hcz52_0
       try clear hcz52_1
       try clear hcz53_0
       try clear hcz53_1
       try clear hcz58_0
       try clear hcz58_1
       try clear hfz13_0
       try clear hfz13_1
       try clear hfz19_0
       try clear hfz19_1
       try clear hfz21_0
       try clear hfz21_1
       try clear hfz25_0
       try clear hfz25_1
       try clear hfz27_0
       try clear hfz27_1
       try clear hfz40_0
       try clear hfz40_1
       try clear hfz41_0
       try clear hfz41_1
       try clear hfz43_0
       try clear hfz43_1
       try clear hfz44_0
       try clear hfz44_1
       try clear hfz46_0
       try clear hfz46_1
       try clear hfz47_0
       try clear hfz47_1
       try clear hfz49_0
       try clear hfz49_1
       try clear hfz50_0
       try clear hfz50_1
       try clear hfz52_0
       try clear hfz52_1
       try clear hfz53_0
       try clear hfz53_1
       try clear hfz58_0
       try clear hfz58_1
       try clear p2
       obtain ⟨kq, x16_59, rfl, HA, HJ59, HO_9, HO_13, HO_14, BK138, BK139, HB⟩ := hcut
       cases kq with
       | zero => exact absurd HA.out (by simp [galoislaw27_CosetForms.j2])
       | succ kj59 =>
        have H := HA.out
        clear HA
        simp only [galoislaw27_CosetForms.j2] at H
        by_cases c62 : t158 = 0
        ·rw [if_pos c62] at H
         have c62b0 : (t158 == 0) = true := beq_iff_eq.mpr c62
         have c62b1 : (t158 != 0) = false := bne_eq_false_iff_eq.mpr c62
         clear c62
         replace H := Option.bind_eq_some_iff.mp H
         obtain ⟨t161, A630, H⟩ := H
         replace H : (if t145 = 0 then (if t144 = (t161.length : Int) then (if t149 = 0 then ((galoisref22_SamePerms.f kj59 t146 t161).bind fun t164 => (galoislaw27_CosetForms.j3 kj59 l2 t150 t151 t152 t155 x16_59 t161 (!t164))) else (galoislaw27_CosetForms.j3 kj59 l2 t150 t151 t152 t155 x16_59 t161 true)) else (galoislaw27_CosetForms.j3 kj59 l2 t150 t151 t152 t155 x16_59 t161 true)) else (galoislaw27_CosetForms.j3 kj59 l2 t150 t151 t152 t155 x16_59 t161 true)) = some r := H
         have A63 := Aside0.mk A630
         clear A630
         have HC64 := Aside0.mk H
         clear H
         obtain ⟨Ao65, co65, eo65⟩ := Kd.N_slice HO_13.out
         subst eo65
         obtain ⟨Ao66, co66, eo66⟩ := Kd.N_slice HO_14.out
         subst eo66
         go_upto_region 15 with (first|((with_reducible refine gate_callee (f := 26) rfl ?_);refine goesL_ (some 101) rfl rfl Try.func26 (by kernel_rfl) rfl #[.slice Ao65 t152.length co65, .slice Ao66 t155.length co66] rfl (by (try simp only [List.map_toArray, List.map_cons, List.map_nil]);first | done | rfl | (simp only [List.length_drop, List.length_take];rfl)) ?_;(with_reducible refine (galoisref27_Representatives.calls kj59 (fun k_ => (some k_ ≠ (v147 : Value).ownBlock ∧ (some k_ ≠ (.slice Ao66 t155.length co66 : Value).ownBlock ∧ (k_ ≠ gb138 ∧ k_ ≠ gb139)))) _ _ t152 _ _ t155 t161 _ ?side1 ?side2 ?side3 A63.out).mono ?_);(case side1 => exact Kd.N_V (HO_13.out));(case side2 => repeat (first|exact (Kd.N_reads' HO_14.out).2.2 | (with_reducible refine Kd.C_alloc ?_ _) | (with_reducible refine Kd.C_drewN ?_ _) | (with_reducible refine Kd.C_drew ?_)));(case side3 => exact (Kd.N_reads' HO_14.out).2.1);rintro e w67 ⟨v162, rfl, ho0, hb⟩;refine ⟨_, rfl, ?_⟩;have n0_ := Aside0.mk (Kd.N_elder' (by (with_reducible repeat (first|apply Kd.N_alloc | apply Kd.N_drewN | apply Kd.N_drew));exact HO_9.out) (by first | exact Kd.N_base ho0 | exact Kd.S_base ho0 | exact Kd.R_base ho0) hb);have n1_ := Aside0.mk (Kd.N_elder' (by (with_reducible repeat (first|apply Kd.N_alloc | apply Kd.N_drewN | apply Kd.N_drew));exact HO_13.out) (by first | exact Kd.N_base ho0 | exact Kd.S_base ho0 | exact Kd.R_base ho0) hb);have n2_ := Aside0.mk (Kd.N_elder' (by (with_reducible repeat (first|apply Kd.N_alloc | apply Kd.N_drewN | apply Kd.N_drew));exact HO_14.out) (by first | exact Kd.N_base ho0 | exact Kd.S_base ho0 | exact Kd.R_base ho0) hb);have n3_ := Aside0.mk (Kd.N_lower (Kd.N_mono (ok' := fun k_ => some k_ ≠ (v147 : Value).ownBlock ∧ some k_ ≠ (.slice Ao66 t155.length co66 : Value).ownBlock ∧ k_ ≠ gb138 ∧ k_ ≠ gb139) ho0 (fun k_ hk_ => ⟨Or.elim hk_ (fun hs_ => hs_.1) (fun hn_ => (Kd.fresh' (Kd.N_lt (by (with_reducible repeat (first|apply Kd.N_alloc | apply Kd.N_drewN | apply Kd.N_drew));exact HO_9.out)) k_ hn_)), Or.elim hk_ (fun hs_ => hs_.2.1) (fun hn_ => (Kd.fresh' (Kd.N_lt (by (with_reducible repeat (first|apply Kd.N_alloc | apply Kd.N_drewN | apply Kd.N_drew));exact HO_14.out)) k_ hn_)), Or.elim hk_ (fun hs_ => hs_.2.2.1) (fun hn_ => (Kd.freshB (g := gb138) (o := .cells #[.int .i64 a0_0, .slice A0_1 l0_1.length c0_1] 24 (0, 0)) (by (with_reducible repeat (first|refine blk_drewN ?_ _ | refine blk_drew ?_ | refine blk_alloc ?_ _));exact BK138.out) k_ hn_)), Or.elim hk_ (fun hs_ => hs_.2.2.2) (fun hn_ => (Kd.freshB (g := gb139) (o := .cells #[.int .i64 a1_0, .slice A1_1 l1_1.length c1_1] 24 (0, 0)) (by (with_reducible repeat (first|refine blk_drewN ?_ _ | refine blk_drew ?_ | refine blk_alloc ?_ _));exact BK139.out) k_ hn_))⟩)) (below_size (by repeat (first|(with_reducible first | exact HB.out | apply below_alloc | apply pw_below_drewN | apply below_drew1 | refine below_set ?_ GE138.out | refine below_set ?_ GE139.out) | exact HB.out))));have n4_ := Aside0.mk (blk_below (g := gb138) (o := .cells #[.int .i64 a0_0, .slice A0_1 l0_1.length c0_1] 24 (0, 0)) (by (with_reducible repeat (first|refine blk_drewN ?_ _ | refine blk_drew ?_ | refine blk_alloc ?_ _));exact BK138.out) hb);have n5_ := Aside0.mk (blk_below (g := gb139) (o := .cells #[.int .i64 a1_0, .slice A1_1 l1_1.length c1_1] 24 (0, 0)) (by (with_reducible repeat (first|refine blk_drewN ?_ _ | refine blk_drew ?_ | refine blk_alloc ?_ _));exact BK139.out) hb);have n6_ := Aside0.mk (below_step (by repeat (first|(with_reducible first | exact HB.out | apply below_alloc | apply pw_below_drewN | apply below_drew1 | refine below_set ?_ GE138.out | refine below_set ?_ GE139.out) | exact HB.out)) hb);clear HO_9;clear HO_13;clear HO_14;clear BK138;clear BK139;clear HB;have HO_9 := n0_;have HO_13 := n1_;have HO_14 := n2_;have HO163 := n3_;have BK138 := n4_;have BK139 := n5_;have HB := n6_;clear n0_ n1_ n2_ n3_ n4_ n5_ n6_;(try clear hb);(try clear hb2);(try clear hk);(try clear hi);(try clear ho0)))
         (try simp only [Act.put, List.setIfInBounds_toArray, List.set_cons_zero, List.set_cons_succ])
         go_cut [119] (fun v119 wc => ∃ (kq : Nat) (x119_63 : Bool), v119 = .bool x119_63 ∧ Aside0 (galoislaw27_CosetForms.j3 kq l2 t150 t151 t152 t155 x16_59 t161 x119_63 = some r) ∧ Aside0 (kq ≤ kj59) ∧ Aside0 (Kd.N (Kd.slice 3 (Kd.int .i64)) 43 wc w.heap.size (fun k_ => some k_ ≠ ((.slice Ao66 t155.length co66) : Value).ownBlock ∧ some k_ ≠ (v162 : Value).ownBlock ∧ k_ ≠ gb138 ∧ k_ ≠ gb139) (.slice Ao65 t152.length co65) t152) ∧ Aside0 (Kd.N (Kd.slice 3 (Kd.int .i64)) 43 wc w.heap.size (fun k_ => some k_ ≠ ((.slice Ao65 t152.length co65) : Value).ownBlock ∧ some k_ ≠ (v162 : Value).ownBlock ∧ k_ ≠ gb138 ∧ k_ ≠ gb139) (.slice Ao66 t155.length co66) t155) ∧ Aside0 (Kd.N (Kd.slice 3 (Kd.int .i64)) 43 wc w.heap.size (fun k_ => some k_ ≠ ((.slice Ao66 t155.length co66) : Value).ownBlock ∧ k_ ≠ gb138 ∧ k_ ≠ gb139) v162 t161) ∧ Aside0 (wc.heap[gb138]? = some (.cells #[.int .i64 a0_0, (.slice A0_1 l0_1.length c0_1)] 24 (0, 0))) ∧ Aside0 (wc.heap[gb139]? = some (.cells #[.int .i64 a1_0, (.slice A1_1 l1_1.length c1_1)] 24 (0, 0))) ∧ Aside0 (Below w.heap.size w wc))
         case first =>
          have H := HC64.out
          clear HC64
          by_cases c68 : t145 = 0
          ·rw [if_pos c68] at H
           have c68b0 : (t145 == 0) = true := beq_iff_eq.mpr c68
           have c68b1 : (t145 != 0) = false := bne_eq_false_iff_eq.mpr c68
           clear c68
           (first|rw [c68b0] | (simp only [i64_w, i32_w];rw [c68b0]) | skip)
           by_cases c69 : t144 = (t161.length : Int)
           ·rw [if_pos c69] at H
            have c69b0 : (t144 == (t161.length : Int)) = true := beq_iff_eq.mpr c69
            have c69b1 : (t144 != (t161.length : Int)) = false := bne_eq_false_iff_eq.mpr c69
            clear c69
            by_cases c70 : t149 = 0
            ·rw [if_pos c70] at H
             have c70b0 : (t149 == 0) = true := beq_iff_eq.mpr c70
             have c70b1 : (t149 != 0) = false := bne_eq_false_iff_eq.mpr c70
             clear c70
             replace H := Option.bind_eq_some_iff.mp H
             obtain ⟨t164, A710, H⟩ := H
             replace H : (galoislaw27_CosetForms.j3 kj59 l2 t150 t151 t152 t155 x16_59 t161 (!t164)) = some r := H
             have A71 := Aside0.mk A710
             clear A710
             have H' := Aside0.mk H
             clear H
             obtain ⟨Ao72, co72, eo72⟩ := Kd.N_slice HO163.out
             subst eo72
             obtain ⟨Ao73, co73, eo73⟩ := Kd.N_slice HO_9.out
             subst eo73
             as_aux_lemma =>
              go_wp2_with (first|(go_at_call 27;(with_reducible refine (galoisref22_SamePerms.calls kj59 _ _ t146 _ _ t161 t164 _ ?side1 ?side2 ?side3 ?side4 A71.out).mono ?_);(case side1 => repeat (first|exact (Kd.N_reads' HO_9.out).2.2 | (with_reducible refine Kd.C_alloc ?_ _) | (with_reducible refine Kd.C_drewN ?_ _) | (with_reducible refine Kd.C_drew ?_)));(case side2 => exact (Kd.N_reads' HO_9.out).2.1);(case side3 => repeat (first|exact (Kd.N_reads' HO163.out).2.2 | (with_reducible refine Kd.C_alloc ?_ _) | (with_reducible refine Kd.C_drewN ?_ _) | (with_reducible refine Kd.C_drew ?_)));(case side4 => exact (Kd.N_reads' HO163.out).2.1);rintro e w' ⟨rfl, ⟨nd, rfl⟩⟩))
              go_meet
              case rel => exact ⟨_, (!t164), (by first | rfl | (simp;done) | (simp [*];done)), H', ⟨by have := HJ3.out;have := HJ37.out;have := HJ59.out;first | omega | exact Nat.le_refl _⟩, ⟨by (with_reducible repeat (first|apply Kd.N_alloc | apply Kd.N_drewN | apply Kd.N_drew));exact Kd.N_mono HO_13.out (fun _ hk => ⟨hk.1.2.1, ⟨hk.2, ⟨hk.1.2.2.1, hk.1.2.2.2⟩⟩⟩)⟩, ⟨by (with_reducible repeat (first|apply Kd.N_alloc | apply Kd.N_drewN | apply Kd.N_drew));exact Kd.N_mono HO_14.out (fun _ hk => ⟨hk.1.2.1, ⟨hk.2, ⟨hk.1.2.2.1, hk.1.2.2.2⟩⟩⟩)⟩, ⟨by (with_reducible repeat (first|apply Kd.N_alloc | apply Kd.N_drewN | apply Kd.N_drew));exact Kd.N_mono HO163.out (fun _ hk => ⟨hk.2.1, ⟨hk.2.2.1, hk.2.2.2⟩⟩)⟩, ⟨by (with_reducible repeat (first|refine blk_drewN ?_ _ | refine blk_drew ?_ | refine blk_alloc ?_ _));exact BK138.out⟩, ⟨by (with_reducible repeat (first|refine blk_drewN ?_ _ | refine blk_drew ?_ | refine blk_alloc ?_ _));exact BK139.out⟩, ⟨by repeat (first|(with_reducible first | exact HB.out | apply below_alloc | apply pw_below_drewN | apply below_drew1 | refine below_set ?_ GE138.out | refine below_set ?_ GE139.out) | exact HB.out)⟩⟩
            ·rw [if_neg c70] at H
             have c70b0 : (t149 == 0) = false := beq_eq_false_iff_ne.mpr c70
             have c70b1 : (t149 != 0) = true := bne_iff_ne.mpr c70
             have H' := Aside0.mk H
             clear H
             obtain ⟨Ao74, co74, eo74⟩ := Kd.N_slice HO163.out
             subst eo74
             as_aux_lemma =>
              go_wp2
              go_meet
              case rel => exact ⟨_, (true), (by first | rfl | (simp;done) | (simp [*];done)), H', ⟨by have := HJ3.out;have := HJ37.out;have := HJ59.out;first | omega | exact Nat.le_refl _⟩, ⟨by (with_reducible repeat (first|apply Kd.N_alloc | apply Kd.N_drewN | apply Kd.N_drew));exact Kd.N_mono HO_13.out (fun _ hk => ⟨hk.1.2.1, ⟨hk.2, ⟨hk.1.2.2.1, hk.1.2.2.2⟩⟩⟩)⟩, ⟨by (with_reducible repeat (first|apply Kd.N_alloc | apply Kd.N_drewN | apply Kd.N_drew));exact Kd.N_mono HO_14.out (fun _ hk => ⟨hk.1.2.1, ⟨hk.2, ⟨hk.1.2.2.1, hk.1.2.2.2⟩⟩⟩)⟩, ⟨by (with_reducible repeat (first|apply Kd.N_alloc | apply Kd.N_drewN | apply Kd.N_drew));exact Kd.N_mono HO163.out (fun _ hk => ⟨hk.2.1, ⟨hk.2.2.1, hk.2.2.2⟩⟩)⟩, ⟨by (with_reducible repeat (first|refine blk_drewN ?_ _ | refine blk_drew ?_ | refine blk_alloc ?_ _));exact BK138.out⟩, ⟨by (with_reducible repeat (first|refine blk_drewN ?_ _ | refine blk_drew ?_ | refine blk_alloc ?_ _));exact BK139.out⟩, ⟨by repeat (first|(with_reducible first | exact HB.out | apply below_alloc | apply pw_below_drewN | apply below_drew1 | refine below_set ?_ GE138.out | refine below_set ?_ GE139.out) | exact HB.out)⟩⟩
           ·rw [if_neg c69] at H
            have c69b0 : (t144 == (t161.length : Int)) = false := beq_eq_false_iff_ne.mpr c69
            have c69b1 : (t144 != (t161.length : Int)) = true := bne_iff_ne.mpr c69
            have H' := Aside0.mk H
            clear H
            obtain ⟨Ao75, co75, eo75⟩ := Kd.N_slice HO163.out
            subst eo75
            as_aux_lemma =>
             go_wp2
             go_meet
             case rel => exact ⟨_, (true), (by first | rfl | (simp;done) | (simp [*];done)), H', ⟨by have := HJ3.out;have := HJ37.out;have := HJ59.out;first | omega | exact Nat.le_refl _⟩, ⟨by (with_reducible repeat (first|apply Kd.N_alloc | apply Kd.N_drewN | apply Kd.N_drew));exact Kd.N_mono HO_13.out (fun _ hk => ⟨hk.1.2.1, ⟨hk.2, ⟨hk.1.2.2.1, hk.1.2.2.2⟩⟩⟩)⟩, ⟨by (with_reducible repeat (first|apply Kd.N_alloc | apply Kd.N_drewN | apply Kd.N_drew));exact Kd.N_mono HO_14.out (fun _ hk => ⟨hk.1.2.1, ⟨hk.2, ⟨hk.1.2.2.1, hk.1.2.2.2⟩⟩⟩)⟩, ⟨by (with_reducible repeat (first|apply Kd.N_alloc | apply Kd.N_drewN | apply Kd.N_drew));exact Kd.N_mono HO163.out (fun _ hk => ⟨hk.2.1, ⟨hk.2.2.1, hk.2.2.2⟩⟩)⟩, ⟨by (with_reducible repeat (first|refine blk_drewN ?_ _ | refine blk_drew ?_ | refine blk_alloc ?_ _));exact BK138.out⟩, ⟨by (with_reducible repeat (first|refine blk_drewN ?_ _ | refine blk_drew ?_ | refine blk_alloc ?_ _));exact BK139.out⟩, ⟨by repeat (first|(with_reducible first | exact HB.out | apply below_alloc | apply pw_below_drewN | apply below_drew1 | refine below_set ?_ GE138.out | refine below_set ?_ GE139.out) | exact HB.out)⟩⟩
          ·rw [if_neg c68] at H
           have c68b0 : (t145 == 0) = false := beq_eq_false_iff_ne.mpr c68
           have c68b1 : (t145 != 0) = true := bne_iff_ne.mpr c68
           (first|rw [c68b0] | (simp only [i64_w, i32_w];rw [c68b0]) | skip)
           have H' := Aside0.mk H
           clear H
           as_aux_lemma =>
            go_wp2
            go_meet
            case rel => exact ⟨_, (true), (by first | rfl | (simp;done) | (simp [*];done)), H', ⟨by have := HJ3.out;have := HJ37.out;have := HJ59.out;first | omega | exact Nat.le_refl _⟩, ⟨by (with_reducible repeat (first|apply Kd.N_alloc | apply Kd.N_drewN | apply Kd.N_drew));exact Kd.N_mono HO_13.out (fun _ hk => ⟨hk.1.2.1, ⟨hk.2, ⟨hk.1.2.2.1, hk.1.2.2.2⟩⟩⟩)⟩, ⟨by (with_reducible repeat (first|apply Kd.N_alloc | apply Kd.N_drewN | apply Kd.N_drew));exact Kd.N_mono HO_14.out (fun _ hk => ⟨hk.1.2.1, ⟨hk.2, ⟨hk.1.2.2.1, hk.1.2.2.2⟩⟩⟩)⟩, ⟨by (with_reducible repeat (first|apply Kd.N_alloc | apply Kd.N_drewN | apply Kd.N_drew));exact Kd.N_mono HO163.out (fun _ hk => ⟨hk.2.1, ⟨hk.2.2.1, hk.2.2.2⟩⟩)⟩, ⟨by (with_reducible repeat (first|refine blk_drewN ?_ _ | refine blk_drew ?_ | refine blk_alloc ?_ _));exact BK138.out⟩, ⟨by (with_reducible repeat (first|refine blk_drewN ?_ _ | refine blk_drew ?_ | refine blk_alloc ?_ _));exact BK139.out⟩, ⟨by repeat (first|(with_reducible first | exact HB.out | apply below_alloc | apply pw_below_drewN | apply below_drew1 | refine below_set ?_ GE138.out | refine below_set ?_ GE139.out) | exact HB.out)⟩⟩
         case rest =>
          clear HC64
          try clear c1
          try clear c2
          try clear p2
          try clear c3
          try clear c4
          try clear c5
          try clear c6
          try clear c7
          try clear c8
          try clear c10
          try clear c12
          try clear c16
          try clear c18
          try clear c21
          try clear c22
          try clear c23
          try clear c24
          try clear c25
          try clear c26
          try clear c30
          try clear c39
          try clear c55
          try clear c55b0
          try clear c55b1
          try clear c57
          try clear c61
          try clear c61b0
          try clear c61b1
          try clear c62
          try clear c62b0
          try clear c62b1
          try clear c68
          try clear c68b0
          try clear c68b1
          try clear c69
          try clear c69b0
          try clear c69b1
          try clear c70
          try clear c70b0
          try clear c70b1
          try clear hcz13_0
          try clear hcz13_1
          try clear hcz19_0
          try clear hcz19_1
          try clear hcz21_0
          try clear hcz21_1
          try clear hcz25_0
          try clear hcz25_1
          try clear hcz27_0
          try clear hcz27_1
          try clear hcz40_0
          try clear hcz40_1
          try clear hcz41_0
          try clear hcz41_1
          try clear hcz43_0
          try clear hcz43_1
          try clear hcz44_0
          try clear hcz44_1
          try clear hcz46_0
          try clear hcz46_1
          try clear hcz47_0
          try clear hcz47_1
          try clear hcz49_0
          try clear hcz49_1
          try clear hcz50_0
          try clear hcz50_1
          try clear hcz52_0
          try clear hcz52_1
          try clear hcz53_0
          try clear hcz53_1
          try clear hcz58_0
          try clear hcz58_1
          try clear hfz13_0
          try clear hfz13_1
          try clear hfz19_0
          try clear hfz19_1
          try clear hfz21_0
          try clear hfz21_1
          try clear hfz25_0
          try clear hfz25_1
          try clear hfz27_0
          try clear hfz27_1
          try clear hfz40_0
          try clear hfz40_1
          try clear hfz41_0
          try clear hfz41_1
          try clear hfz43_0
          try clear hfz43_1
          try clear hfz44_0
          try clear hfz44_1
          try clear hfz46_0
          try clear hfz46_1
          try clear hfz47_0
          try clear hfz47_1
          try clear hfz49_0
          try clear hfz49_1
          try clear hfz50_0
          try clear hfz50_1
          try clear hfz52_0
          try clear hfz52_1
          try clear hfz53_0
          try clear hfz53_1
          try clear hfz58_0
          try clear hfz58_1
          try clear p2
          obtain ⟨kq, x119_63, rfl, HA, HJ63, HO_13, HO_14, HO_17, BK138, BK139, HB⟩ := hcut
          cases kq with
          | zero => exact absurd HA.out (by simp [galoislaw27_CosetForms.j3])
          | succ kj63 =>
           have H := HA.out
           clear HA
           simp only [galoislaw27_CosetForms.j3] at H
           by_cases c76 : x119_63 = true
           ·subst c76
            have H1 : (some false) = some r := by rw [if_pos rfl] at H;exact H
            clear H
            have H := H1
            clear H1
            obtain rfl := Option.some.inj H
            as_aux_lemma =>
             go_wp2
             go_ret
             exact ⟨by first | rfl | (simp [errW_none, errW_some] <;> rfl) | (simp [*, errW_none, errW_some] <;> rfl), by repeat (first|(with_reducible first | exact HB.out | apply below_alloc | apply pw_below_drewN | apply below_drew1 | refine below_set ?_ GE138.out | refine below_set ?_ GE139.out) | exact HB.out)⟩
           ·replace c76 := Bool.eq_false_iff.mpr c76
            subst c76
            have H1 : (if x16_59 = 0 then ((galoisref23_Has.f kj63 t152 l2).bind fun t165 => (if t165 = true then (if t151 = 0 then ((galoisref27_Find.f kj63 t155 t161 l2).bind fun t166 => (some (t150 == t166))) else (some false)) else (if t150 = 0 then (some (t151 == 28)) else (some false)))) else (if t150 = 0 then (some (t151 == x16_59)) else (some false))) = some r := by rw [if_neg (show ¬ (false = true) by decide)] at H;exact H
            clear H
            have H := H1
            clear H1
            by_cases c77 : x16_59 = 0
            ·rw [if_pos c77] at H
             have c77b0 : (x16_59 == 0) = true := beq_iff_eq.mpr c77
             have c77b1 : (x16_59 != 0) = false := bne_eq_false_iff_eq.mpr c77
             clear c77
             replace H := Option.bind_eq_some_iff.mp H
             obtain ⟨t165, A780, H⟩ := H
             replace H : (if t165 = true then (if t151 = 0 then ((galoisref27_Find.f kj63 t155 t161 l2).bind fun t166 => (some (t150 == t166))) else (some false)) else (if t150 = 0 then (some (t151 == 28)) else (some false))) = some r := H
             have A78 := Aside0.mk A780
             clear A780
             by_cases c79 : t165 = true
             ·subst c79
              have H1 : (if t151 = 0 then ((galoisref27_Find.f kj63 t155 t161 l2).bind fun t166 => (some (t150 == t166))) else (some false)) = some r := by rw [if_pos rfl] at H;exact H
              clear H
              have H := H1
              clear H1
              by_cases c80 : t151 = 0
              ·rw [if_pos c80] at H
               have c80b0 : (t151 == 0) = true := beq_iff_eq.mpr c80
               have c80b1 : (t151 != 0) = false := bne_eq_false_iff_eq.mpr c80
               clear c80
               replace H := Option.bind_eq_some_iff.mp H
               obtain ⟨t166, A810, H⟩ := H
               replace H : (some (t150 == t166)) = some r := H
               have A81 := Aside0.mk A810
               clear A810
               obtain rfl := Option.some.inj H
               as_aux_lemma =>
                go_wp2_with (first|((with_reducible refine gate_callee (f := 28) rfl ?_);refine goesL_ (some 131) rfl rfl Try.func28 (by kernel_rfl) rfl #[.slice Ao65 t152.length co65, .slice A2 l2.length c2] rfl (by (try simp only [List.map_toArray, List.map_cons, List.map_nil]);first | done | rfl | (simp only [List.length_drop, List.length_take];rfl)) ?_;(with_reducible refine (galoisref23_Has.calls kj63 _ _ t152 _ _ l2 true _ ?side1 ?side2 ?side3 ?side4 A78.out).mono ?_);(case side1 => repeat (first|exact (Kd.N_reads' HO_13.out).2.2 | (with_reducible refine Kd.C_alloc ?_ _) | (with_reducible refine Kd.C_drewN ?_ _) | (with_reducible refine Kd.C_drew ?_)));(case side2 => exact (Kd.N_reads' HO_13.out).2.1);(case side3 => repeat (first|exact (Kd.C_below HR2.out HB.out) | (with_reducible refine Kd.C_alloc ?_ _) | (with_reducible refine Kd.C_drewN ?_ _) | (with_reducible refine Kd.C_drew ?_)));(case side4 => exact HC2.out);rintro e w' ⟨rfl, ⟨nd, rfl⟩⟩;refine ⟨_, rfl, ?_⟩;obtain ⟨Ao82, co82, eo82⟩ := Kd.N_slice HO_17.out;subst eo82) | (go_at_call 29;(with_reducible refine (galoisref27_Find.calls kj63 _ _ t155 _ _ t161 _ _ l2 t166 _ ?side1 ?side2 ?side3 ?side4 ?side5 ?side6 A81.out).mono ?_);(case side1 => repeat (first|exact (Kd.N_reads' HO_14.out).2.2 | (with_reducible refine Kd.C_alloc ?_ _) | (with_reducible refine Kd.C_drewN ?_ _) | (with_reducible refine Kd.C_drew ?_)));(case side2 => exact (Kd.N_reads' HO_14.out).2.1);(case side3 => repeat (first|exact (Kd.N_reads' HO_17.out).2.2 | (with_reducible refine Kd.C_alloc ?_ _) | (with_reducible refine Kd.C_drewN ?_ _) | (with_reducible refine Kd.C_drew ?_)));(case side4 => exact (Kd.N_reads' HO_17.out).2.1);(case side5 => repeat (first|exact (Kd.C_below HR2.out (by repeat (first|(with_reducible first | exact HB.out | apply below_alloc | apply pw_below_drewN | apply below_drew1 | refine below_set ?_ GE138.out | refine below_set ?_ GE139.out) | exact HB.out))) | (with_reducible refine Kd.C_alloc ?_ _) | (with_reducible refine Kd.C_drewN ?_ _) | (with_reducible refine Kd.C_drew ?_)));(case side6 => exact HC2.out);rintro e w83 ⟨rfl, hb⟩;have n0_ := Aside0.mk (Kd.N_below (by (with_reducible repeat (first|apply Kd.N_alloc | apply Kd.N_drewN | apply Kd.N_drew));exact HO_13.out) hb);have n1_ := Aside0.mk (Kd.N_below (by (with_reducible repeat (first|apply Kd.N_alloc | apply Kd.N_drewN | apply Kd.N_drew));exact HO_14.out) hb);have n2_ := Aside0.mk (Kd.N_below (by (with_reducible repeat (first|apply Kd.N_alloc | apply Kd.N_drewN | apply Kd.N_drew));exact HO_17.out) hb);have n3_ := Aside0.mk (blk_below (g := gb138) (o := .cells #[.int .i64 a0_0, .slice A0_1 l0_1.length c0_1] 24 (0, 0)) (by (with_reducible repeat (first|refine blk_drewN ?_ _ | refine blk_drew ?_ | refine blk_alloc ?_ _));exact BK138.out) hb);have n4_ := Aside0.mk (blk_below (g := gb139) (o := .cells #[.int .i64 a1_0, .slice A1_1 l1_1.length c1_1] 24 (0, 0)) (by (with_reducible repeat (first|refine blk_drewN ?_ _ | refine blk_drew ?_ | refine blk_alloc ?_ _));exact BK139.out) hb);have n5_ := Aside0.mk (below_step (by repeat (first|(with_reducible first | exact HB.out | apply below_alloc | apply pw_below_drewN | apply below_drew1 | refine below_set ?_ GE138.out | refine below_set ?_ GE139.out) | exact HB.out)) hb);clear HO_13;clear HO_14;clear HO_17;clear BK138;clear BK139;clear HB;have HO_13 := n0_;have HO_14 := n1_;have HO_17 := n2_;have BK138 := n3_;have BK139 := n4_;have HB := n5_;clear n0_ n1_ n2_ n3_ n4_ n5_;(try clear hb);(try clear hb2);(try clear hk);(try clear hi)))
                go_ret
                exact ⟨by first | rfl | (simp [errW_none, errW_some] <;> rfl) | (simp [*, errW_none, errW_some] <;> rfl), by repeat (first|(with_reducible first | exact HB.out | apply below_alloc | apply pw_below_drewN | apply below_drew1 | refine below_set ?_ GE138.out | refine below_set ?_ GE139.out) | exact HB.out)⟩
              ·rw [if_neg c80] at H
               have c80b0 : (t151 == 0) = false := beq_eq_false_iff_ne.mpr c80
               have c80b1 : (t151 != 0) = true := bne_iff_ne.mpr c80
               obtain rfl := Option.some.inj H
               as_aux_lemma =>
                go_wp2_with (first|((with_reducible refine gate_callee (f := 28) rfl ?_);refine goesL_ (some 131) rfl rfl Try.func28 (by kernel_rfl) rfl #[.slice Ao65 t152.length co65, .slice A2 l2.length c2] rfl (by (try simp only [List.map_toArray, List.map_cons, List.map_nil]);first | done | rfl | (simp only [List.length_drop, List.length_take];rfl)) ?_;(with_reducible refine (galoisref23_Has.calls kj63 _ _ t152 _ _ l2 true _ ?side1 ?side2 ?side3 ?side4 A78.out).mono ?_);(case side1 => repeat (first|exact (Kd.N_reads' HO_13.out).2.2 | (with_reducible refine Kd.C_alloc ?_ _) | (with_reducible refine Kd.C_drewN ?_ _) | (with_reducible refine Kd.C_drew ?_)));(case side2 => exact (Kd.N_reads' HO_13.out).2.1);(case side3 => repeat (first|exact (Kd.C_below HR2.out HB.out) | (with_reducible refine Kd.C_alloc ?_ _) | (with_reducible refine Kd.C_drewN ?_ _) | (with_reducible refine Kd.C_drew ?_)));(case side4 => exact HC2.out);rintro e w' ⟨rfl, ⟨nd, rfl⟩⟩;refine ⟨_, rfl, ?_⟩))
                go_ret
                exact ⟨by first | rfl | (simp [errW_none, errW_some] <;> rfl) | (simp [*, errW_none, errW_some] <;> rfl), by repeat (first|(with_reducible first | exact HB.out | apply below_alloc | apply pw_below_drewN | apply below_drew1 | refine below_set ?_ GE138.out | refine below_set ?_ GE139.out) | exact HB.out)⟩
             ·replace c79 := Bool.eq_false_iff.mpr c79
              subst c79
              have H1 : (if t150 = 0 then (some (t151 == 28)) else (some false)) = some r := by rw [if_neg (show ¬ (false = true) by decide)] at H;exact H
              clear H
              have H := H1
              clear H1
              by_cases c84 : t150 = 0
              ·rw [if_pos c84] at H
               have c84b0 : (t150 == 0) = true := beq_iff_eq.mpr c84
               have c84b1 : (t150 != 0) = false := bne_eq_false_iff_eq.mpr c84
               clear c84
               obtain rfl := Option.some.inj H
               as_aux_lemma =>
                go_wp2_with (first|((with_reducible refine gate_callee (f := 28) rfl ?_);refine goesL_ (some 131) rfl rfl Try.func28 (by kernel_rfl) rfl #[.slice Ao65 t152.length co65, .slice A2 l2.length c2] rfl (by (try simp only [List.map_toArray, List.map_cons, List.map_nil]);first | done | rfl | (simp only [List.length_drop, List.length_take];rfl)) ?_;(with_reducible refine (galoisref23_Has.calls kj63 _ _ t152 _ _ l2 false _ ?side1 ?side2 ?side3 ?side4 A78.out).mono ?_);(case side1 => repeat (first|exact (Kd.N_reads' HO_13.out).2.2 | (with_reducible refine Kd.C_alloc ?_ _) | (with_reducible refine Kd.C_drewN ?_ _) | (with_reducible refine Kd.C_drew ?_)));(case side2 => exact (Kd.N_reads' HO_13.out).2.1);(case side3 => repeat (first|exact (Kd.C_below HR2.out HB.out) | (with_reducible refine Kd.C_alloc ?_ _) | (with_reducible refine Kd.C_drewN ?_ _) | (with_reducible refine Kd.C_drew ?_)));(case side4 => exact HC2.out);rintro e w' ⟨rfl, ⟨nd, rfl⟩⟩;refine ⟨_, rfl, ?_⟩))
                go_ret
                exact ⟨by first | rfl | (simp [errW_none, errW_some] <;> rfl) | (simp [*, errW_none, errW_some] <;> rfl), by repeat (first|(with_reducible first | exact HB.out | apply below_alloc | apply pw_below_drewN | apply below_drew1 | refine below_set ?_ GE138.out | refine below_set ?_ GE139.out) | exact HB.out)⟩
              ·rw [if_neg c84] at H
               have c84b0 : (t150 == 0) = false := beq_eq_false_iff_ne.mpr c84
               have c84b1 : (t150 != 0) = true := bne_iff_ne.mpr c84
               obtain rfl := Option.some.inj H
               as_aux_lemma =>
                go_wp2_with (first|((with_reducible refine gate_callee (f := 28) rfl ?_);refine goesL_ (some 131) rfl rfl Try.func28 (by kernel_rfl) rfl #[.slice Ao65 t152.length co65, .slice A2 l2.length c2] rfl (by (try simp only [List.map_toArray, List.map_cons, List.map_nil]);first | done | rfl | (simp only [List.length_drop, List.length_take];rfl)) ?_;(with_reducible refine (galoisref23_Has.calls kj63 _ _ t152 _ _ l2 false _ ?side1 ?side2 ?side3 ?side4 A78.out).mono ?_);(case side1 => repeat (first|exact (Kd.N_reads' HO_13.out).2.2 | (with_reducible refine Kd.C_alloc ?_ _) | (with_reducible refine Kd.C_drewN ?_ _) | (with_reducible refine Kd.C_drew ?_)));(case side2 => exact (Kd.N_reads' HO_13.out).2.1);(case side3 => repeat (first|exact (Kd.C_below HR2.out HB.out) | (with_reducible refine Kd.C_alloc ?_ _) | (with_reducible refine Kd.C_drewN ?_ _) | (with_reducible refine Kd.C_drew ?_)));(case side4 => exact HC2.out);rintro e w' ⟨rfl, ⟨nd, rfl⟩⟩;refine ⟨_, rfl, ?_⟩))
                go_ret
                exact ⟨by first | rfl | (simp [errW_none, errW_some] <;> rfl) | (simp [*, errW_none, errW_some] <;> rfl), by repeat (first|(with_reducible first | exact HB.out | apply below_alloc | apply pw_below_drewN | apply below_drew1 | refine below_set ?_ GE138.out | refine below_set ?_ GE139.out) | exact HB.out)⟩
            ·rw [if_neg c77] at H
             have c77b0 : (x16_59 == 0) = false := beq_eq_false_iff_ne.mpr c77
             have c77b1 : (x16_59 != 0) = true := bne_iff_ne.mpr c77
             by_cases c85 : t150 = 0
             ·rw [if_pos c85] at H
              have c85b0 : (t150 == 0) = true := beq_iff_eq.mpr c85
              have c85b1 : (t150 != 0) = false := bne_eq_false_iff_eq.mpr c85
              clear c85
              obtain rfl := Option.some.inj H
              as_aux_lemma =>
               go_wp2
               go_ret
               exact ⟨by first | rfl | (simp [errW_none, errW_some] <;> rfl) | (simp [*, errW_none, errW_some] <;> rfl), by repeat (first|(with_reducible first | exact HB.out | apply below_alloc | apply pw_below_drewN | apply below_drew1 | refine below_set ?_ GE138.out | refine below_set ?_ GE139.out) | exact HB.out)⟩
             ·rw [if_neg c85] at H
              have c85b0 : (t150 == 0) = false := beq_eq_false_iff_ne.mpr c85
              have c85b1 : (t150 != 0) = true := bne_iff_ne.mpr c85
              obtain rfl := Option.some.inj H
              as_aux_lemma =>
               go_wp2
               go_ret
               exact ⟨by first | rfl | (simp [errW_none, errW_some] <;> rfl) | (simp [*, errW_none, errW_some] <;> rfl), by repeat (first|(with_reducible first | exact HB.out | apply below_alloc | apply pw_below_drewN | apply below_drew1 | refine below_set ?_ GE138.out | refine below_set ?_ GE139.out) | exact HB.out)⟩
        ·rw [if_neg c62] at H
         have c62b0 : (t158 == 0) = false := beq_eq_false_iff_ne.mpr c62
         have c62b1 : (t158 != 0) = true := bne_iff_ne.mpr c62
         by_cases c86 : t144 = 0
         ·rw [if_pos c86] at H
          have c86b0 : (t144 == 0) = true := beq_iff_eq.mpr c86
          have c86b1 : (t144 != 0) = false := bne_eq_false_iff_eq.mpr c86
          clear c86
          by_cases c87 : t145 = t158
          ·rw [if_pos c87] at H
           have c87b0 : (t145 == t158) = true := beq_iff_eq.mpr c87
           have c87b1 : (t145 != t158) = false := bne_eq_false_iff_eq.mpr c87
           clear c87
           by_cases c88 : (t146.length : Int) = 0
           ·rw [if_pos c88] at H
            have c88b0 : ((t146.length : Int) == 0) = true := beq_iff_eq.mpr c88
            have c88b1 : ((t146.length : Int) != 0) = false := bne_eq_false_iff_eq.mpr c88
            clear c88
            by_cases c89 : t149 = t158
            ·rw [if_pos c89] at H
             have c89b0 : (t149 == t158) = true := beq_iff_eq.mpr c89
             have c89b1 : (t149 != t158) = false := bne_eq_false_iff_eq.mpr c89
             clear c89
             by_cases c90 : t150 = 0
             ·rw [if_pos c90] at H
              have c90b0 : (t150 == 0) = true := beq_iff_eq.mpr c90
              have c90b1 : (t150 != 0) = false := bne_eq_false_iff_eq.mpr c90
              clear c90
              obtain rfl := Option.some.inj H
              obtain ⟨Ao91, co91, eo91⟩ := Kd.N_slice HO_9.out
              subst eo91
              as_aux_lemma =>
               go_wp2
               go_ret
               exact ⟨by first | rfl | (simp [errW_none, errW_some] <;> rfl) | (simp [*, errW_none, errW_some] <;> rfl), by repeat (first|(with_reducible first | exact HB.out | apply below_alloc | apply pw_below_drewN | apply below_drew1 | refine below_set ?_ GE138.out | refine below_set ?_ GE139.out) | exact HB.out)⟩
             ·rw [if_neg c90] at H
              have c90b0 : (t150 == 0) = false := beq_eq_false_iff_ne.mpr c90
              have c90b1 : (t150 != 0) = true := bne_iff_ne.mpr c90
              obtain rfl := Option.some.inj H
              obtain ⟨Ao92, co92, eo92⟩ := Kd.N_slice HO_9.out
              subst eo92
              as_aux_lemma =>
               go_wp2
               go_ret
               exact ⟨by first | rfl | (simp [errW_none, errW_some] <;> rfl) | (simp [*, errW_none, errW_some] <;> rfl), by repeat (first|(with_reducible first | exact HB.out | apply below_alloc | apply pw_below_drewN | apply below_drew1 | refine below_set ?_ GE138.out | refine below_set ?_ GE139.out) | exact HB.out)⟩
            ·rw [if_neg c89] at H
             have c89b0 : (t149 == t158) = false := beq_eq_false_iff_ne.mpr c89
             have c89b1 : (t149 != t158) = true := bne_iff_ne.mpr c89
             obtain rfl := Option.some.inj H
             obtain ⟨Ao93, co93, eo93⟩ := Kd.N_slice HO_9.out
             subst eo93
             as_aux_lemma =>
              go_wp2
              go_ret
              exact ⟨by first | rfl | (simp [errW_none, errW_some] <;> rfl) | (simp [*, errW_none, errW_some] <;> rfl), by repeat (first|(with_reducible first | exact HB.out | apply below_alloc | apply pw_below_drewN | apply below_drew1 | refine below_set ?_ GE138.out | refine below_set ?_ GE139.out) | exact HB.out)⟩
           ·rw [if_neg c88] at H
            have c88b0 : ((t146.length : Int) == 0) = false := beq_eq_false_iff_ne.mpr c88
            have c88b1 : ((t146.length : Int) != 0) = true := bne_iff_ne.mpr c88
            have c88b2 : ¬ (t146 = []) := fun h_ => c88 (by rw [h_];rfl)
            obtain rfl := Option.some.inj H
            obtain ⟨Ao94, co94, eo94⟩ := Kd.N_slice HO_9.out
            subst eo94
            as_aux_lemma =>
             go_wp2
             go_ret
             exact ⟨by first | rfl | (simp [errW_none, errW_some] <;> rfl) | (simp [*, errW_none, errW_some] <;> rfl), by repeat (first|(with_reducible first | exact HB.out | apply below_alloc | apply pw_below_drewN | apply below_drew1 | refine below_set ?_ GE138.out | refine below_set ?_ GE139.out) | exact HB.out)⟩
          ·rw [if_neg c87] at H
           have c87b0 : (t145 == t158) = false := beq_eq_false_iff_ne.mpr c87
           have c87b1 : (t145 != t158) = true := bne_iff_ne.mpr c87
           obtain rfl := Option.some.inj H
           as_aux_lemma =>
            go_wp2
            go_ret
            exact ⟨by first | rfl | (simp [errW_none, errW_some] <;> rfl) | (simp [*, errW_none, errW_some] <;> rfl), by repeat (first|(with_reducible first | exact HB.out | apply below_alloc | apply pw_below_drewN | apply below_drew1 | refine below_set ?_ GE138.out | refine below_set ?_ GE139.out) | exact HB.out)⟩
         ·rw [if_neg c86] at H
          have c86b0 : (t144 == 0) = false := beq_eq_false_iff_ne.mpr c86
          have c86b1 : (t144 != 0) = true := bne_iff_ne.mpr c86
          obtain rfl := Option.some.inj H
          as_aux_lemma =>
           go_wp2
           go_ret
           exact ⟨by first | rfl | (simp [errW_none, errW_some] <;> rfl) | (simp [*, errW_none, errW_some] <;> rfl), by repeat (first|(with_reducible first | exact HB.out | apply below_alloc | apply pw_below_drewN | apply below_drew1 | refine below_set ?_ GE138.out | refine below_set ?_ GE139.out) | exact HB.out)⟩
def galoislaw27_CosetForms.Pure : Prop := ∀ (a0_0 : Int) (l0_1 : List (List Int)) (a1_0 : Int) (l1_1 : List (List Int)) (l2 : List Int), (Lit.int .i64 a0_0).wf = true → l0_1.length ≤ maxLen → (∀ x ∈ l0_1, (x.length ≤ maxLen ∧ ∀ y0 ∈ x, (Lit.int .i64 y0).wf = true)) → (Lit.int .i64 a1_0).wf = true → l1_1.length ≤ maxLen → (∀ x ∈ l1_1, (x.length ≤ maxLen ∧ ∀ y0 ∈ x, (Lit.int .i64 y0).wf = true)) → l2.length ≤ maxLen → (∀ x ∈ l2, (Lit.int .i64 x).wf = true) → ∃ k, galoislaw27_CosetForms.f k a0_0 l0_1 a1_0 l1_1 l2 = some true
theorem galoislaw27_CosetForms.walk (P : galoislaw27_CosetForms.Pure) (a0_0 : Int) (A0_1 : Option Addr) (c0_1 : Nat) (l0_1 : List (List Int)) (a1_0 : Int) (A1_1 : Option Addr) (c1_1 : Nat) (l1_1 : List (List Int)) (A2 : Option Addr) (c2 : Nat) (l2 : List Int) (w : World) (w0_0 : (Lit.int .i64 a0_0).wf = true) (hr0_1 : Kd.C (Kd.slice 3 (Kd.int .i64)) w A0_1 l0_1.length l0_1) (hc0_1 : l0_1.length ≤ c0_1) (hm0_1 : l0_1.length ≤ maxLen) (hw0_1 : ∀ x ∈ l0_1, (x.length ≤ maxLen ∧ ∀ y0 ∈ x, (Lit.int .i64 y0).wf = true)) (w1_0 : (Lit.int .i64 a1_0).wf = true) (hr1_1 : Kd.C (Kd.slice 3 (Kd.int .i64)) w A1_1 l1_1.length l1_1) (hc1_1 : l1_1.length ≤ c1_1) (hm1_1 : l1_1.length ≤ maxLen) (hw1_1 : ∀ x ∈ l1_1, (x.length ≤ maxLen ∧ ∀ y0 ∈ x, (Lit.int .i64 y0).wf = true)) (hr2 : Kd.C (Kd.int .i64) w A2 l2.length l2) (hc2 : l2.length ≤ c2) (hm2 : l2.length ≤ maxLen) (hw2 : ∀ x ∈ l2, (Lit.int .i64 x).wf = true) :
  Calls Try.prog 4 #[.agg #[.int .i64 a0_0, .slice A0_1 l0_1.length c0_1], .agg #[.int .i64 a1_0, .slice A1_1 l1_1.length c1_1], .slice A2 l2.length c2] w fun e w' => e = .returned (.bool true) ∧ Below w.heap.size w w' := by
 obtain ⟨k, h⟩ := P a0_0 l0_1 a1_0 l1_1 l2 w0_0 hm0_1 hw0_1 w1_0 hm1_1 hw1_1 hm2 hw2
 refine (galoislaw27_CosetForms.calls k a0_0 _ _ l0_1 a1_0 _ _ l1_1 _ _ l2 true w hr0_1 hc0_1 hr1_1 hc1_1 hr2 hc2 h).mono ?_
 rintro e w' ⟨rfl, hd⟩
 exact ⟨rfl, hd⟩
end Go.Proofs.Ytaaaljifclecnaa.PFo
