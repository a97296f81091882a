-- Printed.
import Derived.Test.YtmbldnoepjmhhaaZPermgroupFormsMg0
import Derived.Test.YtmbldnoepjmhhaaZPermgroupFormsPPgx0
namespace Go.Proofs.Ytmbldnoepjmhhaa.PPg
open Go.RowKit Go.Proofs.YtmbldnoepjmhhaaW.PrintWords Go.Proofs.YtmbldnoepjmhhaaW.PrintLast Go.Proofs.YtmbldnoepjmhhaaW.PrintMore Go.Proofs.Ytmbldnoepjmhhaa.PAll
attribute [local go_sem] max2_int min2_int max_two min_two max_three min_three max_four min_four
set_option linter.unusedVariables false
set_option linter.unusedSimpArgs false
abbrev permgroup_Check.f := @Go.Proofs.Ytmbldnoepjmhhaa.PBs.permgroup_Check.f
abbrev permgroup_Check.mono := @Go.Proofs.Ytmbldnoepjmhhaa.PBs.permgroup_Check.mono
abbrev permgroup_Check.calls := @Go.Proofs.Ytmbldnoepjmhhaa.PBs.permgroup_Check.calls
abbrev permgroup_elements.f := @Go.Proofs.Ytmbldnoepjmhhaa.Bs.permgroup_elements.f
abbrev permgroup_elements.calls := @Go.Proofs.Ytmbldnoepjmhhaa.Bs.permgroup_elements.calls
abbrev permgroup_group.f := @Go.Proofs.Ytmbldnoepjmhhaa.Bs.permgroup_group.f
abbrev permgroup_group.calls := @Go.Proofs.Ytmbldnoepjmhhaa.Bs.permgroup_group.calls
def permgroup_Reduced.f (k : Nat) (a0_0 : Int) (l0_1 : List (List Int)) : Option (Int × (List (List Int)) × Int) := (permgroup_Check.f k a0_0 l0_1).bind fun t106 => (if t106 = 0 then ((permgroup_group.f a0_0 l0_1).bind fun bt107 => (some (bt107.1, bt107.2.1, bt107.2.2))) else (some (0, ([] : List (List Int)), t106)))
set_option maxHeartbeats 8000000 in
set_option maxRecDepth 100000 in
theorem permgroup_Reduced.calls (k : Nat) (a0_0 : Int) (A0_1 : Option Addr) (c0_1 : Nat) (l0_1 : List (List Int)) (r1 : Int) (r2 : List (List Int)) (r3 : Int) (w : World) (hr0_1 : Kd.C (Kd.slice 3 (Kd.int .i64)) w A0_1 l0_1.length l0_1) (hc0_1 : l0_1.length ≤ c0_1) (h : permgroup_Reduced.f k a0_0 l0_1 = some (r1, r2, r3)) :
  Calls Try.prog 31 #[.agg #[.int .i64 a0_0, .slice A0_1 l0_1.length c0_1]] w fun e w' => ∃ v1_ : Value, e = .returned (.tuple #[.agg #[.int .i64 r1, v1_], .int .i64 r3]) ∧ Kd.S (Kd.slice 3 (Kd.int .i64)) 49 w' w.heap.size (fun _ => True) v1_ r2 ∧ Below w.heap.size w w' := by
 have hu37 := Try.underlying37
 have HR0_1 := Aside0.mk hr0_1
 have HC0_1 := Aside0.mk hc0_1
 clear hr0_1 hc0_1
 have HB := Aside0.mk (Below.refl w.heap.size w)
 have H : ((permgroup_Check.f k a0_0 l0_1).bind fun t106 => (if t106 = 0 then ((permgroup_group.f a0_0 l0_1).bind fun bt107 => (some (bt107.1, bt107.2.1, bt107.2.2))) else (some (0, ([] : List (List Int)), t106)))) = some (r1, r2, r3) := h
 clear h
 replace H := Option.bind_eq_some_iff.mp H
 obtain ⟨t106, A20, H⟩ := H
 replace H : (if t106 = 0 then ((permgroup_group.f a0_0 l0_1).bind fun bt107 => (some (bt107.1, bt107.2.1, bt107.2.2))) else (some (0, ([] : List (List Int)), t106))) = some (r1, r2, r3) := H
 have A2 := Aside0.mk A20
 clear A20
 by_cases c3 : t106 = 0
 ·rw [if_pos c3] at H
  have c3b0 : (t106 == 0) = true := beq_iff_eq.mpr c3
  have c3b1 : (t106 != 0) = false := bne_eq_false_iff_eq.mpr c3
  clear c3
  replace H := Option.bind_eq_some_iff.mp H
  obtain ⟨⟨t107, t108, t111⟩, A40, H⟩ := H
  replace H : (some (t107, t108, t111)) = some (r1, r2, r3) := H
  have A4 := Aside0.mk A40
  clear A40
  simp only [Option.some.injEq, Prod.mk.injEq] at H
  obtain ⟨rfl, rfl, rfl⟩ := H
  go_enter Try.func31, Try.ntmps31
  go_wp2_with (first|((with_reducible refine gate_dst (N := 1) rfl ?_);refine box_event ?hg (N := 1) ?hd (cs := #[.int .i64 a0_0, .slice A0_1 l0_1.length c0_1]) (t := 37) ?hr ?_;(case hd => rfl);(case hg => rfl);(case hr => first | (go_simp;done) | (go_simp;rfl));intro gb104 hg w5 hbox hb;have n0_ := Aside0.mk (below_step (bel HB.out) hb);have n1_ := Aside0.mk (hbox);have n2_ := Aside0.mk ((by rw [hg];exact (below_size (bel HB.out)) : w.heap.size ≤ gb104));have n3_ := Aside0.mk ((by rw [hg];exact (below_size (bel HB.out)) : w.heap.size ≤ gb104));clear HB;have HB := n0_;have BK104 := n1_;have GW104 := n2_;have GE104 := n3_;clear n0_ n1_ n2_ n3_;clear hb hbox hg) | ((with_reducible refine gate_dst (N := 2) rfl ?_);refine box_event ?hg (N := 2) ?hd (cs := #[.int .i64 0, .slice none 0 0]) (t := 37) ?hr ?_;(case hd => rfl);(case hg => rfl);(case hr => first | (go_simp;done) | (go_simp;rfl));intro gb105 hg w6 hbox hb;have n0_ := Aside0.mk (blk_below (blkst BK104.out) hb);have n1_ := Aside0.mk (below_step (by repeat (first|(with_reducible first | exact HB.out | apply below_alloc | apply pw_below_drewN | apply below_drew1 | refine below_set ?_ GE104.out) | exact HB.out)) hb);have n2_ := Aside0.mk (hbox);have n3_ := Aside0.mk ((by rw [hg];exact (below_size (by repeat (first|(with_reducible first | exact HB.out | apply below_alloc | apply pw_below_drewN | apply below_drew1 | refine below_set ?_ GE104.out) | exact HB.out))) : w.heap.size ≤ gb105));have n4_ := Aside0.mk ((by rw [hg];exact (below_size (by repeat (first|(with_reducible first | exact HB.out | apply below_alloc | apply pw_below_drewN | apply below_drew1 | refine below_set ?_ GE104.out) | exact HB.out))) : w.heap.size ≤ gb105));have n5_ := Aside0.mk ((by rw [hg];exact Nat.ne_of_lt (blk_lt (g := gb104) (o := .cells #[.int .i64 a0_0, .slice A0_1 l0_1.length c0_1] 37 (0, 0)) (blkst BK104.out)) : gb104 ≠ gb105));have n6_ := Aside0.mk ((by rw [hg];exact Nat.ne_of_gt (blk_lt (g := gb104) (o := .cells #[.int .i64 a0_0, .slice A0_1 l0_1.length c0_1] 37 (0, 0)) (blkst BK104.out)) : gb105 ≠ gb104));clear BK104;clear HB;have BK104 := n0_;have HB := n1_;have BK105 := n2_;have GW105 := n3_;have GE105 := n4_;have NB104_105 := n5_;have NB105_104 := n6_;clear n0_ n1_ n2_ n3_ n4_ n5_ n6_;clear hb hbox hg;have hnb7 := NB104_105.out;have hnc7 := NB105_104.out;have hcz8_0 : w6.cell? ⟨gb104, 0, none⟩ = some (.int .i64 a0_0) := (blk_cell BK104.out 0).trans rfl;have hcz8_1 : w6.cell? ⟨gb104, 1, none⟩ = some (.slice A0_1 l0_1.length c0_1) := (blk_cell BK104.out 1).trans rfl;have hfz8_0 := blk_frozen BK104.out 0;have hfz8_1 := blk_frozen BK104.out 1) | ((with_reducible refine gate_callee (f := 33) rfl ?_);refine goesL_ (some 6) rfl rfl Try.func33 (by kernel_rfl) rfl #[.agg #[.int .i64 a0_0, .slice A0_1 l0_1.length c0_1]] rfl (by (try simp only [List.map_toArray, List.map_cons, List.map_nil]);first | done | rfl | (simp only [List.length_drop, List.length_take];rfl)) ?_;(with_reducible refine (permgroup_Check.calls k a0_0 _ _ l0_1 t106 _ ?side1 ?side2 A2.out).mono ?_);(case side1 => exact Cst (Kd.C_below HR0_1.out HB.out));(case side2 => exact HC0_1.out);rintro e w9 ⟨rfl, hb⟩;refine ⟨_, rfl, ?_⟩;have n0_ := Aside0.mk (blk_below (blkst BK104.out) hb);have n1_ := Aside0.mk (blk_below (blkst BK105.out) hb);have n2_ := Aside0.mk (below_step (by repeat (first|(with_reducible first | exact HB.out | apply below_alloc | apply pw_below_drewN | apply below_drew1 | refine below_set ?_ GE104.out | refine below_set ?_ GE105.out) | exact HB.out)) hb);clear BK104;clear BK105;clear HB;have BK104 := n0_;have BK105 := n1_;have HB := n2_;clear n0_ n1_ n2_;(try clear hb);(try clear hb2);(try clear hk);(try clear hi);have hcz10_0 : w9.cell? ⟨gb104, 0, none⟩ = some (.int .i64 a0_0) := (blk_cell BK104.out 0).trans rfl;have hcz10_1 : w9.cell? ⟨gb104, 1, none⟩ = some (.slice A0_1 l0_1.length c0_1) := (blk_cell BK104.out 1).trans rfl;have hfz10_0 := blk_frozen BK104.out 0;have hfz10_1 := blk_frozen BK104.out 1) | ((with_reducible refine gate_callee (f := 89) rfl ?_);refine goesL_ (some 15) rfl rfl Try.func89 (by kernel_rfl) rfl #[.int .i64 a0_0, .slice A0_1 l0_1.length c0_1] rfl (by (try simp only [List.map_toArray, List.map_cons, List.map_nil]);first | done | rfl | (simp only [List.length_drop, List.length_take];rfl)) ?_;(with_reducible refine (permgroup_group.calls a0_0 _ _ l0_1 t107 t108 t111 _ ?side1 ?side2 A4.out).mono ?_);(case side1 => exact Cst (Kd.C_below HR0_1.out HB.out));(case side2 => exact HC0_1.out);rintro e w11 ⟨v109, rfl, ho0, hb⟩;refine ⟨_, rfl, ?_⟩;have n0_ := Aside0.mk (Kd.S_lower ho0 (below_size (by repeat (first|(with_reducible first | exact HB.out | apply below_alloc | apply pw_below_drewN | apply below_drew1 | refine below_set ?_ GE104.out | refine below_set ?_ GE105.out) | exact HB.out))));have n1_ := Aside0.mk (blk_below (blkst BK104.out) hb);have n2_ := Aside0.mk (blk_below (blkst BK105.out) hb);have n3_ := Aside0.mk (below_step (by repeat (first|(with_reducible first | exact HB.out | apply below_alloc | apply pw_below_drewN | apply below_drew1 | refine below_set ?_ GE104.out | refine below_set ?_ GE105.out) | exact HB.out)) hb);clear BK104;clear BK105;clear HB;have HO110 := n0_;have BK104 := n1_;have BK105 := n2_;have HB := n3_;clear n0_ n1_ n2_ n3_;(try clear hb);(try clear hb2);(try clear hk);(try clear hi);(try clear ho0);have hcz12_0 : w11.cell? ⟨gb105, 0, none⟩ = some (.int .i64 0) := (blk_cell BK105.out 0).trans rfl;have hcz12_1 : w11.cell? ⟨gb105, 1, none⟩ = some (.slice none 0 0) := (blk_cell BK105.out 1).trans rfl;have hfz12_0 := blk_frozen BK105.out 0;have hfz12_1 := blk_frozen BK105.out 1;obtain ⟨Ao13, co13, eo13⟩ := Kd.S_slice HO110.out;subst eo13))
  refine bodyPost_ret (results_ct rfl _ _ gb105 37 #[.int .i64 t107, .slice Ao13 t108.length co13] (0, 0) _ rfl (by (with_reducible repeat (first|refine blk_drewN ?_ _ | refine blk_drew ?_ | refine blk_alloc ?_ _));refine blk_put (cs := #[.int .i64 t107, .slice none 0 0]) ?_ 1 _ rfl;(with_reducible repeat (first|refine blk_drewN ?_ _ | refine blk_drew ?_ | refine blk_alloc ?_ _));refine blk_put (cs := #[.int .i64 0, .slice none 0 0]) ?_ 0 _ rfl;(with_reducible repeat (first|refine blk_drewN ?_ _ | refine blk_drew ?_ | refine blk_alloc ?_ _));exact BK105.out) Try.underlying37 rfl (by kernel_rfl)) rfl ?_
  exact ⟨_, by first | rfl | (simp [errW_none, errW_some] <;> rfl) | (simp [*, errW_none, errW_some] <;> rfl), by (with_reducible repeat (first|apply Kd.S_alloc | apply Kd.S_drewN | apply Kd.S_drew));exact Kd.S_mono (Kd.S_far (p := ⟨gb105, 1, none⟩) (Kd.S_far (p := ⟨gb105, 0, none⟩) (Kd.S_types HO110.out BK105.out (by decide)) (fun _ hk => hk.2) (.int .i64 t107)) (fun _ hk => hk.2) (.slice Ao13 t108.length co13)) (fun _ hk => trivial), by repeat (first|(with_reducible first | exact HB.out | apply below_alloc | apply pw_below_drewN | apply below_drew1 | refine below_set ?_ GE104.out | refine below_set ?_ GE105.out) | exact HB.out)⟩
 ·rw [if_neg c3] at H
  have c3b0 : (t106 == 0) = false := beq_eq_false_iff_ne.mpr c3
  have c3b1 : (t106 != 0) = true := bne_iff_ne.mpr c3
  simp only [Option.some.injEq, Prod.mk.injEq] at H
  obtain ⟨rfl, rfl, rfl⟩ := H
  go_enter Try.func31, Try.ntmps31
  go_wp2_with (first|((with_reducible refine gate_dst (N := 1) rfl ?_);refine box_event ?hg (N := 1) ?hd (cs := #[.int .i64 a0_0, .slice A0_1 l0_1.length c0_1]) (t := 37) ?hr ?_;(case hd => rfl);(case hg => rfl);(case hr => first | (go_simp;done) | (go_simp;rfl));intro gb104 hg w14 hbox hb;have n0_ := Aside0.mk (below_step (bel HB.out) hb);have n1_ := Aside0.mk (hbox);have n2_ := Aside0.mk ((by rw [hg];exact (below_size (bel HB.out)) : w.heap.size ≤ gb104));have n3_ := Aside0.mk ((by rw [hg];exact (below_size (bel HB.out)) : w.heap.size ≤ gb104));clear HB;have HB := n0_;have BK104 := n1_;have GW104 := n2_;have GE104 := n3_;clear n0_ n1_ n2_ n3_;clear hb hbox hg) | ((with_reducible refine gate_dst (N := 2) rfl ?_);refine box_event ?hg (N := 2) ?hd (cs := #[.int .i64 0, .slice none 0 0]) (t := 37) ?hr ?_;(case hd => rfl);(case hg => rfl);(case hr => first | (go_simp;done) | (go_simp;rfl));intro gb105 hg w15 hbox hb;have n0_ := Aside0.mk (blk_below (blkst BK104.out) hb);have n1_ := Aside0.mk (below_step (by repeat (first|(with_reducible first | exact HB.out | apply below_alloc | apply pw_below_drewN | apply below_drew1 | refine below_set ?_ GE104.out) | exact HB.out)) hb);have n2_ := Aside0.mk (hbox);have n3_ := Aside0.mk ((by rw [hg];exact (below_size (by repeat (first|(with_reducible first | exact HB.out | apply below_alloc | apply pw_below_drewN | apply below_drew1 | refine below_set ?_ GE104.out) | exact HB.out))) : w.heap.size ≤ gb105));have n4_ := Aside0.mk ((by rw [hg];exact (below_size (by repeat (first|(with_reducible first | exact HB.out | apply below_alloc | apply pw_below_drewN | apply below_drew1 | refine below_set ?_ GE104.out) | exact HB.out))) : w.heap.size ≤ gb105));have n5_ := Aside0.mk ((by rw [hg];exact Nat.ne_of_lt (blk_lt (g := gb104) (o := .cells #[.int .i64 a0_0, .slice A0_1 l0_1.length c0_1] 37 (0, 0)) (blkst BK104.out)) : gb104 ≠ gb105));have n6_ := Aside0.mk ((by rw [hg];exact Nat.ne_of_gt (blk_lt (g := gb104) (o := .cells #[.int .i64 a0_0, .slice A0_1 l0_1.length c0_1] 37 (0, 0)) (blkst BK104.out)) : gb105 ≠ gb104));clear BK104;clear HB;have BK104 := n0_;have HB := n1_;have BK105 := n2_;have GW105 := n3_;have GE105 := n4_;have NB104_105 := n5_;have NB105_104 := n6_;clear n0_ n1_ n2_ n3_ n4_ n5_ n6_;clear hb hbox hg;have hnb16 := NB104_105.out;have hnc16 := NB105_104.out;have hcz17_0 : w15.cell? ⟨gb104, 0, none⟩ = some (.int .i64 a0_0) := (blk_cell BK104.out 0).trans rfl;have hcz17_1 : w15.cell? ⟨gb104, 1, none⟩ = some (.slice A0_1 l0_1.length c0_1) := (blk_cell BK104.out 1).trans rfl;have hfz17_0 := blk_frozen BK104.out 0;have hfz17_1 := blk_frozen BK104.out 1) | ((with_reducible refine gate_callee (f := 33) rfl ?_);refine goesL_ (some 6) rfl rfl Try.func33 (by kernel_rfl) rfl #[.agg #[.int .i64 a0_0, .slice A0_1 l0_1.length c0_1]] rfl (by (try simp only [List.map_toArray, List.map_cons, List.map_nil]);first | done | rfl | (simp only [List.length_drop, List.length_take];rfl)) ?_;(with_reducible refine (permgroup_Check.calls k a0_0 _ _ l0_1 t106 _ ?side1 ?side2 A2.out).mono ?_);(case side1 => exact Cst (Kd.C_below HR0_1.out HB.out));(case side2 => exact HC0_1.out);rintro e w18 ⟨rfl, hb⟩;refine ⟨_, rfl, ?_⟩;have n0_ := Aside0.mk (blk_below (blkst BK104.out) hb);have n1_ := Aside0.mk (blk_below (blkst BK105.out) hb);have n2_ := Aside0.mk (below_step (by repeat (first|(with_reducible first | exact HB.out | apply below_alloc | apply pw_below_drewN | apply below_drew1 | refine below_set ?_ GE104.out | refine below_set ?_ GE105.out) | exact HB.out)) hb);clear BK104;clear BK105;clear HB;have BK104 := n0_;have BK105 := n1_;have HB := n2_;clear n0_ n1_ n2_;(try clear hb);(try clear hb2);(try clear hk);(try clear hi);have hcz19_0 : w18.cell? ⟨gb105, 0, none⟩ = some (.int .i64 0) := (blk_cell BK105.out 0).trans rfl;have hcz19_1 : w18.cell? ⟨gb105, 1, none⟩ = some (.slice none 0 0) := (blk_cell BK105.out 1).trans rfl;have hfz19_0 := blk_frozen BK105.out 0;have hfz19_1 := blk_frozen BK105.out 1))
  refine bodyPost_ret (results_ct rfl _ _ gb105 37 #[.int .i64 0, .slice none 0 0] (0, 0) _ rfl (by (with_reducible repeat (first|refine blk_drewN ?_ _ | refine blk_drew ?_ | refine blk_alloc ?_ _));refine blk_put (cs := #[.int .i64 0, .slice none 0 0]) ?_ 1 _ rfl;(with_reducible repeat (first|refine blk_drewN ?_ _ | refine blk_drew ?_ | refine blk_alloc ?_ _));refine blk_put (cs := #[.int .i64 0, .slice none 0 0]) ?_ 0 _ rfl;(with_reducible repeat (first|refine blk_drewN ?_ _ | refine blk_drew ?_ | refine blk_alloc ?_ _));exact BK105.out) Try.underlying37 rfl (by kernel_rfl)) rfl ?_
  exact ⟨_, by first | rfl | (simp [errW_none, errW_some] <;> rfl) | (simp [*, errW_none, errW_some] <;> rfl), by first | exact Kd.S_nil _ _ _ _ _ | exact Kd.N_nil _ _ _ _ _ | exact Kd.V_nil _ _ _ _ _ | exact Kd.Q_nil _ _ _ _ _ | exact Kd.R_nil _ _ _ _ _, by repeat (first|(with_reducible first | exact HB.out | apply below_alloc | apply pw_below_drewN | apply below_drew1 | refine below_set ?_ GE104.out | refine below_set ?_ GE105.out) | exact HB.out)⟩
def permgroup_Elements.f (k : Nat) (a0_0 : Int) (l0_1 : List (List Int)) : Option ((List (List Int)) × Int) := (permgroup_Check.f k a0_0 l0_1).bind fun t113 => (if t113 = 0 then ((permgroup_elements.f a0_0 l0_1).bind fun bt114 => (some (bt114.1, bt114.2))) else (some (([] : List (List Int)), t113)))
set_option maxHeartbeats 8000000 in
set_option maxRecDepth 100000 in
theorem permgroup_Elements.calls (k : Nat) (a0_0 : Int) (A0_1 : Option Addr) (c0_1 : Nat) (l0_1 : List (List Int)) (r1 : List (List Int)) (r2 : Int) (w : World) (hr0_1 : Kd.C (Kd.slice 3 (Kd.int .i64)) w A0_1 l0_1.length l0_1) (hc0_1 : l0_1.length ≤ c0_1) (h : permgroup_Elements.f k a0_0 l0_1 = some (r1, r2)) :
  Calls Try.prog 30 #[.agg #[.int .i64 a0_0, .slice A0_1 l0_1.length c0_1]] w fun e w' => ∃ v0_ : Value, e = .returned (.tuple #[v0_, .int .i64 r2]) ∧ Kd.S (Kd.slice 3 (Kd.int .i64)) 49 w' w.heap.size (fun _ => True) v0_ r1 ∧ Below w.heap.size w w' := by
 have hu := Try.underlying37
 have P0 := Aside0.mk hr0_1
 have L0 := Aside0.mk hc0_1
 unfold permgroup_Elements.f at h
 obtain ⟨t1, h1, h⟩ := Option.bind_eq_some_iff.1 h
 have E1 := Aside0.mk h1
 have X := Aside0.mk (blk_new w (.cells #[.int .i64 a0_0, .slice A0_1 l0_1.length c0_1] 37))
 have B := Aside0.mk (show Below w.heap.size w (w.alloc (.cells #[.int .i64 a0_0, .slice A0_1 l0_1.length c0_1] 37)) from below_alloc (Below.refl _ _) _)
 clear hr0_1 hc0_1 h1
 go_enter Try.func30, Try.ntmps30
 by_cases c1 : t1 = 0
 ·subst c1
  rw [if_pos rfl] at h
  obtain ⟨⟨t2, t3⟩, h2, h⟩ := Option.bind_eq_some_iff.1 h
  obtain ⟨rfl, rfl⟩ := Prod.mk.inj (Option.some.inj h)
  have E2 := Aside0.mk h2
  clear h2 h
  go_wp2_with (first
   | (go_at_call 33;(refine (permgroup_Check.calls k a0_0 A0_1 c0_1 l0_1 0 _ (Kd.C_below P0.out (below_step B.out bel0)) L0.out E1.out).mono ?_);rintro e1 w1 ⟨rfl, hb⟩;have hq := below_step (w := (w.alloc (.cells #[.int .i64 a0_0, .slice A0_1 l0_1.length c0_1] 37))) bel0 hb;have B1 := Aside0.mk (below_step B.out hq);have X1 := Aside0.mk ((hq.block _ (blk_lt X.out)).trans X.out);have x10 := blk_cell X1.out 0;have x11 := blk_cell X1.out 1;have z1 := blk_lt X1.out;clear hb hq)
   | (go_at_call 88;(refine (permgroup_elements.calls a0_0 A0_1 c0_1 l0_1 t2 t3 _ (Kd.C_below P0.out (below_step B1.out bel0)) L0.out E2.out).mono ?_);rintro e2 w2 ⟨v2, rfl, hs2, hb⟩;have S2 := Aside0.mk hs2;clear hs2;have hq := below_step (w := w1) bel0 hb;have B2 := Aside0.mk (below_step B1.out hq);have X2 := Aside0.mk ((hq.block _ (blk_lt X1.out)).trans X1.out);have x20 := blk_cell X2.out 0;have x21 := blk_cell X2.out 1;have z2 := blk_lt X2.out;clear hb hq))
  go_ret2
  exact ⟨_, rfl, Kd.S_lower S2.out (by have := B1.out.size;omega), B2.out⟩
 ·rw [if_neg c1] at h
  obtain ⟨rfl, rfl⟩ := Prod.mk.inj (Option.some.inj h)
  have n1 : (t1 == 0) = false := beq_eq_false_iff_ne.mpr c1
  have m1 : (t1 != 0) = true := bne_iff_ne.mpr c1
  clear h c1
  go_wp2_with (go_at_call 33;(refine (permgroup_Check.calls k a0_0 A0_1 c0_1 l0_1 t1 _ (Kd.C_below P0.out (below_step B.out bel0)) L0.out E1.out).mono ?_);rintro e1 w1 ⟨rfl, hb⟩;have hq := below_step (w := (w.alloc (.cells #[.int .i64 a0_0, .slice A0_1 l0_1.length c0_1] 37))) bel0 hb;have B1 := Aside0.mk (below_step B.out hq);have X1 := Aside0.mk ((hq.block _ (blk_lt X.out)).trans X.out);have x10 := blk_cell X1.out 0;have x11 := blk_cell X1.out 1;have z1 := blk_lt X1.out;clear hb hq)
  go_ret2
  exact ⟨_, rfl, Kd.S_nil _ _ _ _ _, B1.out⟩
abbrev galoisref23_Close.f := @Go.Proofs.Ytmbldnoepjmhhaa.Bs.galoisref23_Close.f
abbrev galoisref23_Close.mono := @Go.Proofs.Ytmbldnoepjmhhaa.Bs.galoisref23_Close.mono
abbrev galoisref23_Close.calls := @Go.Proofs.Ytmbldnoepjmhhaa.Bs.galoisref23_Close.calls
def galoisref23_Elements.f (k : Nat) (a0_0 : Int) (l0_1 : List (List Int)) : Option ((List (List Int)) × Bool) := (galoisref23_Close.f k a0_0 l0_1).bind fun bt120 => (some (bt120.1, bt120.2))
set_option maxHeartbeats 8000000 in
set_option maxRecDepth 100000 in
theorem galoisref23_Elements.calls (k : Nat) (a0_0 : Int) (A0_1 : Option Addr) (c0_1 : Nat) (l0_1 : List (List Int)) (r1 : List (List Int)) (r2 : Bool) (w : World) (hr0_1 : Kd.C (Kd.slice 3 (Kd.int .i64)) w A0_1 l0_1.length l0_1) (hc0_1 : l0_1.length ≤ c0_1) (h : galoisref23_Elements.f k a0_0 l0_1 = some (r1, r2)) :
  Calls Try.prog 35 #[.agg #[.int .i64 a0_0, .slice A0_1 l0_1.length c0_1]] w fun e w' => ∃ v0_ : Value, e = .returned (.tuple #[v0_, .bool r2]) ∧ Kd.S (Kd.slice 3 (Kd.int .i64)) 49 w' w.heap.size (fun _ => True) v0_ r1 ∧ Below w.heap.size w w' := by
 have hu37 := Try.underlying37
 have HR0_1 := Aside0.mk hr0_1
 have HC0_1 := Aside0.mk hc0_1
 clear hr0_1 hc0_1
 have HB := Aside0.mk (Below.refl w.heap.size w)
 have H : ((galoisref23_Close.f k a0_0 l0_1).bind fun bt120 => (some (bt120.1, bt120.2))) = some (r1, r2) := h
 clear h
 replace H := Option.bind_eq_some_iff.mp H
 obtain ⟨⟨t120, t121⟩, A20, H⟩ := H
 replace H : (some (t120, t121)) = some (r1, r2) := H
 have A2 := Aside0.mk A20
 clear A20
 simp only [Option.some.injEq, Prod.mk.injEq] at H
 obtain ⟨rfl, rfl⟩ := H
 go_enter Try.func35, Try.ntmps35
 go_wp2_with (first|((with_reducible refine gate_dst (N := 1) rfl ?_);refine box_event ?hg (N := 1) ?hd (cs := #[.int .i64 a0_0, .slice A0_1 l0_1.length c0_1]) (t := 37) ?hr ?_;(case hd => rfl);(case hg => rfl);(case hr => first | (go_simp;done) | (go_simp;rfl));intro gb119 hg w3 hbox hb;have n0_ := Aside0.mk (below_step (bel HB.out) hb);have n1_ := Aside0.mk (hbox);have n2_ := Aside0.mk ((by rw [hg];exact (below_size (bel HB.out)) : w.heap.size ≤ gb119));have n3_ := Aside0.mk ((by rw [hg];exact (below_size (bel HB.out)) : w.heap.size ≤ gb119));clear HB;have HB := n0_;have BK119 := n1_;have GW119 := n2_;have GE119 := n3_;clear n0_ n1_ n2_ n3_;clear hb hbox hg;have hcz4_0 : w3.cell? ⟨gb119, 0, none⟩ = some (.int .i64 a0_0) := (blk_cell BK119.out 0).trans rfl;have hcz4_1 : w3.cell? ⟨gb119, 1, none⟩ = some (.slice A0_1 l0_1.length c0_1) := (blk_cell BK119.out 1).trans rfl;have hfz4_0 := blk_frozen BK119.out 0;have hfz4_1 := blk_frozen BK119.out 1) | ((with_reducible refine gate_callee (f := 92) rfl ?_);refine goesL_ (some 8) rfl rfl Try.func92 (by kernel_rfl) rfl #[.int .i64 a0_0, .slice A0_1 l0_1.length c0_1] rfl (by (try simp only [List.map_toArray, List.map_cons, List.map_nil]);first | done | rfl | (simp only [List.length_drop, List.length_take];rfl)) ?_;(with_reducible refine (galoisref23_Close.calls k a0_0 _ _ l0_1 t120 t121 _ ?side1 ?side2 A2.out).mono ?_);(case side1 => exact Cst (Kd.C_below HR0_1.out HB.out));(case side2 => exact HC0_1.out);rintro e w5 ⟨v122, rfl, ho0, hb⟩;refine ⟨_, rfl, ?_⟩;have n0_ := Aside0.mk (Kd.S_lower ho0 (below_size (by repeat (first|(with_reducible first | exact HB.out | apply below_alloc | apply pw_below_drewN | apply below_drew1 | refine below_set ?_ GE119.out) | exact HB.out))));have n1_ := Aside0.mk (blk_below (blkst BK119.out) hb);have n2_ := Aside0.mk (below_step (by repeat (first|(with_reducible first | exact HB.out | apply below_alloc | apply pw_below_drewN | apply below_drew1 | refine below_set ?_ GE119.out) | exact HB.out)) hb);clear BK119;clear HB;have HO123 := n0_;have BK119 := n1_;have HB := n2_;clear n0_ n1_ n2_;(try clear hb);(try clear hb2);(try clear hk);(try clear hi);(try clear ho0)))
 go_ret2
 exact ⟨_, by first | rfl | (simp [errW_none, errW_some] <;> rfl) | (simp [*, errW_none, errW_some] <;> rfl), Sst HO123.out, by repeat (first|(with_reducible first | exact HB.out | apply below_alloc | apply pw_below_drewN | apply below_drew1 | refine below_set ?_ GE119.out) | exact HB.out)⟩
abbrev galoisref23_Check.f := @Go.Proofs.Ytmbldnoepjmhhaa.PRf.galoisref23_Check.f
abbrev galoisref23_Check.calls := @Go.Proofs.Ytmbldnoepjmhhaa.PRf.galoisref23_Check.calls
abbrev galoisref23_Few.f := @Go.Proofs.Ytmbldnoepjmhhaa.PRf.galoisref23_Few.f
abbrev galoisref23_Few.calls := @Go.Proofs.Ytmbldnoepjmhhaa.PRf.galoisref23_Few.calls
def galoisref23_Small.f (k : Nat) (a0_0 : Int) (l0_1 : List (List Int)) : Option (Bool) := (galoisref23_Few.f k a0_0 l0_1).bind fun t125 => (if t125 = true then ((galoisref23_Check.f k a0_0 l0_1).bind fun t126 => (if t126 = 0 then ((galoisref23_Elements.f k a0_0 l0_1).bind fun bt127 => (some bt127.2)) else (some false))) else (some false))
set_option maxHeartbeats 8000000 in
set_option maxRecDepth 100000 in
theorem galoisref23_Small.calls (k : Nat) (a0_0 : Int) (A0_1 : Option Addr) (c0_1 : Nat) (l0_1 : List (List Int)) (r : Bool) (w : World) (hr0_1 : Kd.C (Kd.slice 3 (Kd.int .i64)) w A0_1 l0_1.length l0_1) (hc0_1 : l0_1.length ≤ c0_1) (h : galoisref23_Small.f k a0_0 l0_1 = some r) :
  Calls Try.prog 73 #[.agg #[.int .i64 a0_0, .slice A0_1 l0_1.length c0_1]] w fun e w' => e = .returned (.bool r) ∧ Below w.heap.size w w' := by
 have hu := Try.underlying37
 have P0 := Aside0.mk hr0_1
 have L0 := Aside0.mk hc0_1
 unfold galoisref23_Small.f at h
 obtain ⟨t1, h1, h⟩ := Option.bind_eq_some_iff.1 h
 have E1 := Aside0.mk h1
 have X := Aside0.mk (blk_new w (.cells #[.int .i64 a0_0, .slice A0_1 l0_1.length c0_1] 37))
 have B := Aside0.mk (show Below w.heap.size w (w.alloc (.cells #[.int .i64 a0_0, .slice A0_1 l0_1.length c0_1] 37)) from below_alloc (Below.refl _ _) _)
 clear hr0_1 hc0_1 h1
 go_enter Try.func73, Try.ntmps73
 cases t1 with
 | true =>
  rw [if_pos rfl] at h
  obtain ⟨t2, h2, h⟩ := Option.bind_eq_some_iff.1 h
  have E2 := Aside0.mk h2
  clear h2
  by_cases c2 : t2 = 0
  ·subst c2
   rw [if_pos rfl] at h
   obtain ⟨⟨t3, r⟩, h3, h⟩ := Option.bind_eq_some_iff.1 h
   obtain rfl := Option.some.inj h
   have E3 := Aside0.mk h3
   clear h3 h
   go_wp2_with (first
    | (go_at_call 41;(refine (galoisref23_Few.calls k a0_0 A0_1 c0_1 l0_1 true _ (Kd.C_below P0.out (below_step B.out bel0)) L0.out E1.out).mono ?_);rintro e1 w1 ⟨rfl, hb⟩;have hq := below_step (w := (w.alloc (.cells #[.int .i64 a0_0, .slice A0_1 l0_1.length c0_1] 37))) bel0 hb;have B1 := Aside0.mk (below_step B.out hq);have X1 := Aside0.mk ((hq.block _ (blk_lt X.out)).trans X.out);have x10 := blk_cell X1.out 0;have x11 := blk_cell X1.out 1;have z1 := blk_lt X1.out;clear hb hq)
    | (go_at_call 28;(refine (galoisref23_Check.calls k a0_0 A0_1 c0_1 l0_1 0 _ (Kd.C_below P0.out (below_step B1.out bel0)) L0.out E2.out).mono ?_);rintro e2 w2 ⟨rfl, hb⟩;have hq := below_step (w := w1) bel0 hb;have B2 := Aside0.mk (below_step B1.out hq);have X2 := Aside0.mk ((hq.block _ (blk_lt X1.out)).trans X1.out);have x20 := blk_cell X2.out 0;have x21 := blk_cell X2.out 1;have z2 := blk_lt X2.out;clear hb hq)
    | (go_at_call 35;(refine (galoisref23_Elements.calls k a0_0 A0_1 c0_1 l0_1 t3 r _ (Kd.C_below P0.out (below_step B2.out bel0)) L0.out E3.out).mono ?_);rintro e3 w3 ⟨v3, rfl, hs3, hb⟩;have hq := below_step (w := w2) bel0 hb;have B3 := Aside0.mk (below_step B2.out hq);have X3 := Aside0.mk ((hq.block _ (blk_lt X2.out)).trans X2.out);have x30 := blk_cell X3.out 0;have x31 := blk_cell X3.out 1;have z3 := blk_lt X3.out;clear hb hq))
   go_ret
   exact ⟨rfl, B3.out⟩
  ·rw [if_neg c2] at h
   obtain rfl := Option.some.inj h
   have n2 : (t2 == 0) = false := beq_eq_false_iff_ne.mpr c2
   have m2 : (t2 != 0) = true := bne_iff_ne.mpr c2
   clear h c2
   go_wp2_with (first
    | (go_at_call 41;(refine (galoisref23_Few.calls k a0_0 A0_1 c0_1 l0_1 true _ (Kd.C_below P0.out (below_step B.out bel0)) L0.out E1.out).mono ?_);rintro e1 w1 ⟨rfl, hb⟩;have hq := below_step (w := (w.alloc (.cells #[.int .i64 a0_0, .slice A0_1 l0_1.length c0_1] 37))) bel0 hb;have B1 := Aside0.mk (below_step B.out hq);have X1 := Aside0.mk ((hq.block _ (blk_lt X.out)).trans X.out);have x10 := blk_cell X1.out 0;have x11 := blk_cell X1.out 1;have z1 := blk_lt X1.out;clear hb hq)
    | (go_at_call 28;(refine (galoisref23_Check.calls k a0_0 A0_1 c0_1 l0_1 t2 _ (Kd.C_below P0.out (below_step B1.out bel0)) L0.out E2.out).mono ?_);rintro e2 w2 ⟨rfl, hb⟩;have hq := below_step (w := w1) bel0 hb;have B2 := Aside0.mk (below_step B1.out hq);have X2 := Aside0.mk ((hq.block _ (blk_lt X1.out)).trans X1.out);have x20 := blk_cell X2.out 0;have x21 := blk_cell X2.out 1;have z2 := blk_lt X2.out;clear hb hq))
   go_ret
   exact ⟨rfl, B2.out⟩
 | false =>
  rw [if_neg (by decide)] at h
  obtain rfl := Option.some.inj h
  clear h
  go_wp2_with (go_at_call 41;(refine (galoisref23_Few.calls k a0_0 A0_1 c0_1 l0_1 false _ (Kd.C_below P0.out (below_step B.out bel0)) L0.out E1.out).mono ?_);rintro e1 w1 ⟨rfl, hb⟩;have hq := below_step (w := (w.alloc (.cells #[.int .i64 a0_0, .slice A0_1 l0_1.length c0_1] 37))) bel0 hb;have B1 := Aside0.mk (below_step B.out hq);have X1 := Aside0.mk ((hq.block _ (blk_lt X.out)).trans X.out);have x10 := blk_cell X1.out 0;have x11 := blk_cell X1.out 1;have z1 := blk_lt X1.out;clear hb hq)
  go_ret
  exact ⟨rfl, B1.out⟩
def galoislaw23_example.f  : Option (Int × (List (List Int))) := some (4, (([(([1, 2, 3, 0] : List Int)), (([2, 1, 0, 3] : List Int))] : List (List Int))))
set_option maxHeartbeats 8000000 in
set_option maxRecDepth 100000 in
theorem galoislaw23_example.calls  (r1 : Int) (r2 : List (List Int)) (w : World) (h : galoislaw23_example.f  = some (r1, r2)) :
  Calls Try.prog 85 #[] w fun e w' => ∃ v1_ : Value, e = .returned (.agg #[.int .i64 r1, v1_]) ∧ Kd.N (Kd.slice 3 (Kd.int .i64)) 49 w' w.heap.size (fun k_ => (w.heap.size ≤ k_)) v1_ r2 ∧ Below w.heap.size w w' := by
 have hu37 := Try.underlying37
 have HB := Aside0.mk (Below.refl w.heap.size w)
 have H : (some (4, (([(([1, 2, 3, 0] : List Int)), (([2, 1, 0, 3] : List Int))] : List (List Int))))) = some (r1, r2) := h
 clear h
 obtain ⟨y132, hy132⟩ : ∃ y_ : List Int, y_ = (([1, 2, 3, 0] : List Int)) := ⟨_, rfl⟩
 replace H : (some (4, (([y132, (([2, 1, 0, 3] : List Int))] : List (List Int))))) = some (r1, r2) := by first | (rw [hy132];with_reducible exact H) | (have H2_ := (Option.bind_some _ _).symm.trans H;rw [hy132];with_reducible exact H2_) | (have H2_ := (Option.bind_some _ _).symm.trans H;with_reducible exact H2_) | with_reducible exact H | (rw [hy132];exact H) | exact H
 have Ny132 := Aside0.mk hy132
 clear hy132
 obtain ⟨y135, hy135⟩ : ∃ y_ : List Int, y_ = (([2, 1, 0, 3] : List Int)) := ⟨_, rfl⟩
 replace H : (some (4, (([y132, y135] : List (List Int))))) = some (r1, r2) := by first | (rw [hy135];with_reducible exact H) | (have H2_ := (Option.bind_some _ _).symm.trans H;rw [hy135];with_reducible exact H2_) | (have H2_ := (Option.bind_some _ _).symm.trans H;with_reducible exact H2_) | with_reducible exact H | (rw [hy135];exact H) | exact H
 have Ny135 := Aside0.mk hy135
 clear hy135
 obtain ⟨y138, hy138⟩ : ∃ y_ : List (List Int), y_ = (([y132, y135] : List (List Int))) := ⟨_, rfl⟩
 replace H : (some (4, y138)) = some (r1, r2) := by first | (rw [hy138];with_reducible exact H) | (have H2_ := (Option.bind_some _ _).symm.trans H;rw [hy138];with_reducible exact H2_) | (have H2_ := (Option.bind_some _ _).symm.trans H;with_reducible exact H2_) | with_reducible exact H | (rw [hy138];exact H) | exact H
 have Ny138 := Aside0.mk hy138
 clear hy138
 simp only [Option.some.injEq, Prod.mk.injEq] at H
 obtain ⟨rfl, rfl⟩ := H
 go_enter Try.func85, Try.ntmps85
 go_wp2_with (first|((with_reducible refine gate_dst (N := 0) rfl ?_);refine box_event ?hg (N := 0) ?hd (cs := #[.int .i64 0, .slice none 0 0]) (t := 37) ?hr ?_;(case hd => rfl);(case hg => rfl);(case hr => first | (go_simp;done) | (go_simp;rfl));intro gb131 hg w1 hbox hb;have n0_ := Aside0.mk (below_step (bel HB.out) hb);have n1_ := Aside0.mk (hbox);have n2_ := Aside0.mk ((by rw [hg];exact (below_size (bel HB.out)) : w.heap.size ≤ gb131));have n3_ := Aside0.mk ((by rw [hg];exact (below_size (bel HB.out)) : w.heap.size ≤ gb131));clear HB;have HB := n0_;have BK131 := n1_;have GW131 := n2_;have GE131 := n3_;clear n0_ n1_ n2_ n3_;clear hb hbox hg) | ((with_reducible refine gate_dst (N := 1) rfl ?_);refine Kd.R_lit (Kd.int .i64) _ 3 ?hg (N := 1) ?hd (xs := ([1, 2, 3, 0] : List Int)) (inner := [.int .i64 1, .int .i64 2, .int .i64 3, .int .i64 0]) (ok := fun _ => True) (okp := fun _ => True) ?hr ?hp (fun _ hk => hk) trivial (Below.refl _ _) (Nat.le_refl _) (by simp) ?_;(case hd => rfl);(case hg => rfl);(case hr => first | (go_simp;done) | (go_simp;rfl));(case hp => exact (Reps.one (show Kd.M (Kd.int .i64) _ _ _ 1 [.int .i64 1] from rfl) (Reps.one (show Kd.M (Kd.int .i64) _ _ _ 2 [.int .i64 2] from rfl) (Reps.one (show Kd.M (Kd.int .i64) _ _ _ 3 [.int .i64 3] from rfl) (Reps.one (show Kd.M (Kd.int .i64) _ _ _ 0 [.int .i64 0] from rfl) (Reps.none _ _))))));intro v133 w2 ho3 hb hg_ hnew_;clear hg_ hnew_;(first|rw [← Ny132.out] at ho3 | (simp only [Int.reduceToNat] at ho3;rw [← Ny132.out] at ho3));have n0_ := Aside0.mk (Kd.R_lower (Kd.R_newM (M := fun k_ => (w.heap.size ≤ k_)) ho3 (below_size (by repeat (first|(with_reducible first | exact HB.out | apply below_alloc | apply pw_below_drewN | apply below_drew1 | refine below_set ?_ GE131.out) | exact HB.out))) (fun k_ h_ => h_)) (below_size (by repeat (first|(with_reducible first | exact HB.out | apply below_alloc | apply pw_below_drewN | apply below_drew1 | refine below_set ?_ GE131.out) | exact HB.out))));have n1_ := Aside0.mk (blk_below (blkst BK131.out) hb);have n2_ := Aside0.mk (below_step (by repeat (first|(with_reducible first | exact HB.out | apply below_alloc | apply pw_below_drewN | apply below_drew1 | refine below_set ?_ GE131.out) | exact HB.out)) hb);clear BK131;clear HB;have HO134 := n0_;have BK131 := n1_;have HB := n2_;clear n0_ n1_ n2_;clear hb ho3) | ((with_reducible refine gate_dst (N := 2) rfl ?_);refine Kd.R_lit (Kd.int .i64) _ 3 ?hg (N := 2) ?hd (xs := ([2, 1, 0, 3] : List Int)) (inner := [.int .i64 2, .int .i64 1, .int .i64 0, .int .i64 3]) (ok := fun _ => True) (okp := fun _ => True) ?hr ?hp (fun _ hk => hk) trivial (Below.refl _ _) (Nat.le_refl _) (by simp) ?_;(case hd => rfl);(case hg => rfl);(case hr => first | (go_simp;done) | (go_simp;rfl));(case hp => exact (Reps.one (show Kd.M (Kd.int .i64) _ _ _ 2 [.int .i64 2] from rfl) (Reps.one (show Kd.M (Kd.int .i64) _ _ _ 1 [.int .i64 1] from rfl) (Reps.one (show Kd.M (Kd.int .i64) _ _ _ 0 [.int .i64 0] from rfl) (Reps.one (show Kd.M (Kd.int .i64) _ _ _ 3 [.int .i64 3] from rfl) (Reps.none _ _))))));intro v136 w4 ho5 hb hg_ hnew_;clear hg_ hnew_;(first|rw [← Ny135.out] at ho5 | (simp only [Int.reduceToNat] at ho5;rw [← Ny135.out] at ho5));have n0_ := Aside0.mk (Kd.R_elder' (Rst HO134.out) (Kd.R_base ho5) hb);have n1_ := Aside0.mk (Kd.R_lower (Kd.R_new' (Kd.R_newM (M := fun k_ => (w.heap.size ≤ k_)) ho5 (below_size (by repeat (first|(with_reducible first | exact HB.out | apply below_alloc | apply pw_below_drewN | apply below_drew1 | refine below_set ?_ GE131.out) | exact HB.out))) (fun k_ h_ => h_)) (Kd.R_lt (Rst HO134.out))) (below_size (by repeat (first|(with_reducible first | exact HB.out | apply below_alloc | apply pw_below_drewN | apply below_drew1 | refine below_set ?_ GE131.out) | exact HB.out))));have n2_ := Aside0.mk (blk_below (blkst BK131.out) hb);have n3_ := Aside0.mk (below_step (by repeat (first|(with_reducible first | exact HB.out | apply below_alloc | apply pw_below_drewN | apply below_drew1 | refine below_set ?_ GE131.out) | exact HB.out)) hb);clear HO134;clear BK131;clear HB;have HO134 := n0_;have HO137 := n1_;have BK131 := n2_;have HB := n3_;clear n0_ n1_ n2_ n3_;clear hb ho5;obtain ⟨Ao6, co6, eo6⟩ := Kd.R_slice HO134.out;subst eo6;obtain ⟨Ao7, co7, eo7⟩ := Kd.R_slice HO137.out;subst eo7) | ((with_reducible refine gate_dst (N := 3) rfl ?_);refine Kd.N_lit (Kd.slice 3 (Kd.int .i64)) _ 49 ?hg (N' := 3) ?hd (xs := ([y132, y135] : List (List Int))) (inner := [.slice Ao6 y132.length co6, .slice Ao7 y135.length co7]) (ok := (fun k_ => (w.heap.size ≤ k_) ∧ k_ ≠ gb131)) (okp := (fun k_ => (w.heap.size ≤ k_) ∧ k_ ≠ gb131)) ?hr ?hp (fun _ hk => hk) ((show ∀ k_, w4.heap.size ≤ k_ → (fun k_ => (w.heap.size ≤ k_) ∧ k_ ≠ gb131) k_ from fun k_ hk => ⟨(Nat.le_trans (below_size (by repeat (first|(with_reducible first | exact HB.out | apply below_alloc | apply pw_below_drewN | apply below_drew1 | refine below_set ?_ GE131.out) | exact HB.out))) hk), Kd.freshB (g := gb131) (o := .cells #[.int .i64 0, .slice none 0 0] 37 (0, 0)) (blkst BK131.out) k_ hk⟩) _ (Nat.le_refl _)) (Below.refl _ _) (Nat.le_refl _) (by simp) ?_;(case hd => rfl);(case hg => rfl);(case hr => first | (go_simp;done) | (go_simp;rfl));(case hp => exact (Reps.one (show Kd.FK (Kd.slice 3 (Kd.int .i64)) _ _ y132 [.slice Ao6 y132.length co6] from (Kd.FK_slice_mk (Kd.R_reads' (Kd.R_mono (ok' := (fun k_ => (w.heap.size ≤ k_) ∧ k_ ≠ gb131)) (Kd.R_types (HO134.out) BK131.out (by decide)) (fun k_ hk => ⟨hk.1.1.1, hk.2⟩))).2.1 (Kd.R_F (Kd.R_mono (ok' := (fun k_ => (w.heap.size ≤ k_) ∧ k_ ≠ gb131)) (Kd.R_types (HO134.out) BK131.out (by decide)) (fun k_ hk => ⟨hk.1.1.1, hk.2⟩))))) (Reps.one (show Kd.FK (Kd.slice 3 (Kd.int .i64)) _ _ y135 [.slice Ao7 y135.length co7] from (Kd.FK_slice_mk (Kd.R_reads' (Kd.R_mono (ok' := (fun k_ => (w.heap.size ≤ k_) ∧ k_ ≠ gb131)) (Kd.R_types (HO137.out) BK131.out (by decide)) (fun k_ hk => ⟨hk.1.1.1, hk.2⟩))).2.1 (Kd.R_F (Kd.R_mono (ok' := (fun k_ => (w.heap.size ≤ k_) ∧ k_ ≠ gb131)) (Kd.R_types (HO137.out) BK131.out (by decide)) (fun k_ hk => ⟨hk.1.1.1, hk.2⟩))))) (Reps.none _ _))));intro v139 w8 ho9 hb hg_ hnew_;clear hg_ hnew_;(first|rw [← Ny138.out] at ho9 | (simp only [Int.reduceToNat] at ho9;rw [← Ny138.out] at ho9));have n0_ := Aside0.mk (Kd.N_lower ho9 (below_size (by repeat (first|(with_reducible first | exact HB.out | apply below_alloc | apply pw_below_drewN | apply below_drew1 | refine below_set ?_ GE131.out) | exact HB.out))));have n1_ := Aside0.mk (blk_below (blkst BK131.out) hb);have n2_ := Aside0.mk (below_step (by repeat (first|(with_reducible first | exact HB.out | apply below_alloc | apply pw_below_drewN | apply below_drew1 | refine below_set ?_ GE131.out) | exact HB.out)) hb);clear BK131;clear HB;clear HO134;clear HO137;have HO140 := n0_;have BK131 := n1_;have HB := n2_;clear n0_ n1_ n2_;clear hb ho9;obtain ⟨Ao10, co10, eo10⟩ := Kd.N_slice HO140.out;subst eo10;have hcz11_0 : w8.cell? ⟨gb131, 0, none⟩ = some (.int .i64 0) := (blk_cell BK131.out 0).trans rfl;have hcz11_1 : w8.cell? ⟨gb131, 1, none⟩ = some (.slice none 0 0) := (blk_cell BK131.out 1).trans rfl;have hfz11_0 := blk_frozen BK131.out 0;have hfz11_1 := blk_frozen BK131.out 1))
 refine bodyPost_ret (results_cell_row rfl _ _ gb131 37 #[.int .i64 4, .slice Ao10 y138.length co10] (0, 0) _ rfl (by (with_reducible repeat (first|refine blk_drewN ?_ _ | refine blk_drew ?_ | refine blk_alloc ?_ _));refine blk_put (cs := #[.int .i64 4, .slice none 0 0]) ?_ 1 _ rfl;(with_reducible repeat (first|refine blk_drewN ?_ _ | refine blk_drew ?_ | refine blk_alloc ?_ _));refine blk_put (cs := #[.int .i64 0, .slice none 0 0]) ?_ 0 _ rfl;(with_reducible repeat (first|refine blk_drewN ?_ _ | refine blk_drew ?_ | refine blk_alloc ?_ _));exact BK131.out) Try.underlying37 rfl (by kernel_rfl)) rfl ?_
 exact ⟨_, by first | rfl | (simp [errW_none, errW_some] <;> rfl) | (simp [*, errW_none, errW_some] <;> rfl), by (with_reducible repeat (first|apply Kd.N_alloc | apply Kd.N_drewN | apply Kd.N_drew));exact Kd.N_mono (Kd.N_far (p := ⟨gb131, 1, none⟩) (Kd.N_far (p := ⟨gb131, 0, none⟩) (Kd.N_mono HO140.out (fun k_ hk => (⟨hk, hk.2⟩ : _ ∧ k_ ≠ gb131))) (fun _ hk => hk.2) (.int .i64 4)) (fun _ hk => hk.2) (.slice Ao10 y138.length co10)) (fun _ hk => hk.1.1), by repeat (first|(with_reducible first | exact HB.out | apply below_alloc | apply pw_below_drewN | apply below_drew1 | refine below_set ?_ GE131.out) | exact HB.out)⟩
def galoislaw23_none.f (a0_0 : Int) (l0_1 : List (List Int)) : Option (Bool) := if a0_0 = 0 then (some ((l0_1.length : Int) == 0)) else (some false)
set_option maxHeartbeats 8000000 in
set_option maxRecDepth 100000 in
theorem galoislaw23_none.calls (a0_0 : Int) (A0_1 : Option Addr) (c0_1 : Nat) (l0_1 : List (List Int)) (r : Bool) (w : World) (hr0_1 : Kd.C (Kd.slice 3 (Kd.int .i64)) w A0_1 l0_1.length l0_1) (hc0_1 : l0_1.length ≤ c0_1) (h : galoislaw23_none.f a0_0 l0_1 = some r) :
  Calls Try.prog 34 #[.agg #[.int .i64 a0_0, .slice A0_1 l0_1.length c0_1]] w fun e w' => e = .returned (.bool r) ∧ Below w.heap.size w w' := by
 have hu37 := Try.underlying37
 have HR0_1 := Aside0.mk hr0_1
 have HC0_1 := Aside0.mk hc0_1
 clear hr0_1 hc0_1
 have HB := Aside0.mk (Below.refl w.heap.size w)
 have H : (if a0_0 = 0 then (some ((l0_1.length : Int) == 0)) else (some false)) = some r := h
 clear h
 by_cases c2 : a0_0 = 0
 ·rw [if_pos c2] at H
  have c2b0 : (a0_0 == 0) = true := beq_iff_eq.mpr c2
  have c2b1 : (a0_0 != 0) = false := bne_eq_false_iff_eq.mpr c2
  clear c2
  obtain rfl := Option.some.inj H
  go_enter Try.func34, Try.ntmps34
  go_wp2_with (first|((with_reducible refine gate_dst (N := 1) rfl ?_);(try (refine gate_guard (by rfl) ?_;dsimp only));refine box_event ?hg (N := 1) ?hd (cs := #[.int .i64 a0_0, .slice A0_1 l0_1.length c0_1]) (t := 37) ?hr ?_;(case hd => rfl);(case hg => rfl);(case hr => first | (go_simp;done) | (go_simp;rfl));intro gb141 hg w3 hbox hb;have n0_ := Aside0.mk (below_step (bel HB.out) hb);have n1_ := Aside0.mk (hbox);have n2_ := Aside0.mk ((by rw [hg];exact (below_size (bel HB.out)) : w.heap.size ≤ gb141));have n3_ := Aside0.mk ((by rw [hg];exact (below_size (bel HB.out)) : w.heap.size ≤ gb141));clear HB;have HB := n0_;have BK141 := n1_;have GW141 := n2_;have GE141 := n3_;clear n0_ n1_ n2_ n3_;clear hb hbox hg;have hcz4_0 : w3.cell? ⟨gb141, 0, none⟩ = some (.int .i64 a0_0) := (blk_cell BK141.out 0).trans rfl;have hcz4_1 : w3.cell? ⟨gb141, 1, none⟩ = some (.slice A0_1 l0_1.length c0_1) := (blk_cell BK141.out 1).trans rfl;have hfz4_0 := blk_frozen BK141.out 0;have hfz4_1 := blk_frozen BK141.out 1))
  go_ret
  exact ⟨by first | rfl | (simp [errW_none, errW_some] <;> rfl) | (simp [*, errW_none, errW_some] <;> rfl), by repeat (first|(with_reducible first | exact HB.out | apply below_alloc | apply pw_below_drewN | apply below_drew1 | refine below_set ?_ GE141.out) | exact HB.out)⟩
 ·rw [if_neg c2] at H
  have c2b0 : (a0_0 == 0) = false := beq_eq_false_iff_ne.mpr c2
  have c2b1 : (a0_0 != 0) = true := bne_iff_ne.mpr c2
  obtain rfl := Option.some.inj H
  go_enter Try.func34, Try.ntmps34
  go_wp2_with (first|((with_reducible refine gate_dst (N := 1) rfl ?_);(try (refine gate_guard (by rfl) ?_;dsimp only));refine box_event ?hg (N := 1) ?hd (cs := #[.int .i64 a0_0, .slice A0_1 l0_1.length c0_1]) (t := 37) ?hr ?_;(case hd => rfl);(case hg => rfl);(case hr => first | (go_simp;done) | (go_simp;rfl));intro gb141 hg w5 hbox hb;have n0_ := Aside0.mk (below_step (bel HB.out) hb);have n1_ := Aside0.mk (hbox);have n2_ := Aside0.mk ((by rw [hg];exact (below_size (bel HB.out)) : w.heap.size ≤ gb141));have n3_ := Aside0.mk ((by rw [hg];exact (below_size (bel HB.out)) : w.heap.size ≤ gb141));clear HB;have HB := n0_;have BK141 := n1_;have GW141 := n2_;have GE141 := n3_;clear n0_ n1_ n2_ n3_;clear hb hbox hg;have hcz6_0 : w5.cell? ⟨gb141, 0, none⟩ = some (.int .i64 a0_0) := (blk_cell BK141.out 0).trans rfl;have hcz6_1 : w5.cell? ⟨gb141, 1, none⟩ = some (.slice A0_1 l0_1.length c0_1) := (blk_cell BK141.out 1).trans rfl;have hfz6_0 := blk_frozen BK141.out 0;have hfz6_1 := blk_frozen BK141.out 1))
  go_ret
  exact ⟨by first | rfl | (simp [errW_none, errW_some] <;> rfl) | (simp [*, errW_none, errW_some] <;> rfl), by repeat (first|(with_reducible first | exact HB.out | apply below_alloc | apply pw_below_drewN | apply below_drew1 | refine below_set ?_ GE141.out) | exact HB.out)⟩
def galoislaw23_large.f (k : Nat) (a0_0 : Int) (l0_1 : List (List Int)) : Option (Bool) := (galoisref23_Few.f k a0_0 l0_1).bind fun t143 => (if t143 = true then ((galoisref23_Check.f k a0_0 l0_1).bind fun t144 => (if t144 = 0 then ((galoisref23_Small.f k a0_0 l0_1).bind fun t145 => (some (!t145))) else (some false))) else (some true))
set_option maxHeartbeats 8000000 in
set_option maxRecDepth 100000 in
theorem galoislaw23_large.calls (k : Nat) (a0_0 : Int) (A0_1 : Option Addr) (c0_1 : Nat) (l0_1 : List (List Int)) (r : Bool) (w : World) (hr0_1 : Kd.C (Kd.slice 3 (Kd.int .i64)) w A0_1 l0_1.length l0_1) (hc0_1 : l0_1.length ≤ c0_1) (h : galoislaw23_large.f k a0_0 l0_1 = some r) :
  Calls Try.prog 27 #[.agg #[.int .i64 a0_0, .slice A0_1 l0_1.length c0_1]] w fun e w' => e = .returned (.bool r) ∧ Below w.heap.size w w' := by
 have hu37 := Try.underlying37
 have HR0_1 := Aside0.mk hr0_1
 have HC0_1 := Aside0.mk hc0_1
 clear hr0_1 hc0_1
 have HB := Aside0.mk (Below.refl w.heap.size w)
 have H : ((galoisref23_Few.f k a0_0 l0_1).bind fun t143 => (if t143 = true then ((galoisref23_Check.f k a0_0 l0_1).bind fun t144 => (if t144 = 0 then ((galoisref23_Small.f k a0_0 l0_1).bind fun t145 => (some (!t145))) else (some false))) else (some true))) = some r := h
 clear h
 replace H := Option.bind_eq_some_iff.mp H
 obtain ⟨t143, A20, H⟩ := H
 replace H : (if t143 = true then ((galoisref23_Check.f k a0_0 l0_1).bind fun t144 => (if t144 = 0 then ((galoisref23_Small.f k a0_0 l0_1).bind fun t145 => (some (!t145))) else (some false))) else (some true)) = some r := H
 have A2 := Aside0.mk A20
 clear A20
 by_cases c3 : t143 = true
 ·subst c3
  have H1 : ((galoisref23_Check.f k a0_0 l0_1).bind fun t144 => (if t144 = 0 then ((galoisref23_Small.f k a0_0 l0_1).bind fun t145 => (some (!t145))) else (some false))) = some r := by rw [if_pos rfl] at H;exact H
  clear H
  have H := H1
  clear H1
  replace H := Option.bind_eq_some_iff.mp H
  obtain ⟨t144, A40, H⟩ := H
  replace H : (if t144 = 0 then ((galoisref23_Small.f k a0_0 l0_1).bind fun t145 => (some (!t145))) else (some false)) = some r := H
  have A4 := Aside0.mk A40
  clear A40
  by_cases c5 : t144 = 0
  ·rw [if_pos c5] at H
   have c5b0 : (t144 == 0) = true := beq_iff_eq.mpr c5
   have c5b1 : (t144 != 0) = false := bne_eq_false_iff_eq.mpr c5
   clear c5
   replace H := Option.bind_eq_some_iff.mp H
   obtain ⟨t145, A60, H⟩ := H
   replace H : (some (!t145)) = some r := H
   have A6 := Aside0.mk A60
   clear A60
   obtain rfl := Option.some.inj H
   go_enter Try.func27, Try.ntmps27
   go_wp2_with (first|((with_reducible refine gate_dst (N := 1) rfl ?_);refine box_event ?hg (N := 1) ?hd (cs := #[.int .i64 a0_0, .slice A0_1 l0_1.length c0_1]) (t := 37) ?hr ?_;(case hd => rfl);(case hg => rfl);(case hr => first | (go_simp;done) | (go_simp;rfl));intro gb142 hg w7 hbox hb;have n0_ := Aside0.mk (below_step (bel HB.out) hb);have n1_ := Aside0.mk (hbox);have n2_ := Aside0.mk ((by rw [hg];exact (below_size (bel HB.out)) : w.heap.size ≤ gb142));have n3_ := Aside0.mk ((by rw [hg];exact (below_size (bel HB.out)) : w.heap.size ≤ gb142));clear HB;have HB := n0_;have BK142 := n1_;have GW142 := n2_;have GE142 := n3_;clear n0_ n1_ n2_ n3_;clear hb hbox hg;have hcz8_0 : w7.cell? ⟨gb142, 0, none⟩ = some (.int .i64 a0_0) := (blk_cell BK142.out 0).trans rfl;have hcz8_1 : w7.cell? ⟨gb142, 1, none⟩ = some (.slice A0_1 l0_1.length c0_1) := (blk_cell BK142.out 1).trans rfl;have hfz8_0 := blk_frozen BK142.out 0;have hfz8_1 := blk_frozen BK142.out 1) | ((with_reducible refine gate_callee (f := 41) rfl ?_);refine goesL_ (some 4) rfl rfl Try.func41 (by kernel_rfl) rfl #[.agg #[.int .i64 a0_0, .slice A0_1 l0_1.length c0_1]] rfl (by (try simp only [List.map_toArray, List.map_cons, List.map_nil]);first | done | rfl | (simp only [List.length_drop, List.length_take];rfl)) ?_;(with_reducible refine (galoisref23_Few.calls k a0_0 _ _ l0_1 true _ ?side1 ?side2 A2.out).mono ?_);(case side1 => exact Cst (Kd.C_below HR0_1.out HB.out));(case side2 => exact HC0_1.out);rintro e w9 ⟨rfl, hb⟩;refine ⟨_, rfl, ?_⟩;have n0_ := Aside0.mk (blk_below (blkst BK142.out) hb);have n1_ := Aside0.mk (below_step (by repeat (first|(with_reducible first | exact HB.out | apply below_alloc | apply pw_below_drewN | apply below_drew1 | refine below_set ?_ GE142.out) | exact HB.out)) hb);clear BK142;clear HB;have BK142 := n0_;have HB := n1_;clear n0_ n1_;(try clear hb);(try clear hb2);(try clear hk);(try clear hi);have hcz10_0 : w9.cell? ⟨gb142, 0, none⟩ = some (.int .i64 a0_0) := (blk_cell BK142.out 0).trans rfl;have hcz10_1 : w9.cell? ⟨gb142, 1, none⟩ = some (.slice A0_1 l0_1.length c0_1) := (blk_cell BK142.out 1).trans rfl;have hfz10_0 := blk_frozen BK142.out 0;have hfz10_1 := blk_frozen BK142.out 1) | (go_at_call 28;(with_reducible refine (galoisref23_Check.calls k a0_0 _ _ l0_1 t144 _ ?side1 ?side2 A4.out).mono ?_);(case side1 => exact Cst (Kd.C_below HR0_1.out HB.out));(case side2 => exact HC0_1.out);rintro e w11 ⟨rfl, hb⟩;have n0_ := Aside0.mk (blk_below (blkst BK142.out) hb);have n1_ := Aside0.mk (below_step (by repeat (first|(with_reducible first | exact HB.out | apply below_alloc | apply pw_below_drewN | apply below_drew1 | refine below_set ?_ GE142.out) | exact HB.out)) hb);clear BK142;clear HB;have BK142 := n0_;have HB := n1_;clear n0_ n1_;(try clear hb);(try clear hb2);(try clear hk);(try clear hi);have hcz12_0 : w11.cell? ⟨gb142, 0, none⟩ = some (.int .i64 a0_0) := (blk_cell BK142.out 0).trans rfl;have hcz12_1 : w11.cell? ⟨gb142, 1, none⟩ = some (.slice A0_1 l0_1.length c0_1) := (blk_cell BK142.out 1).trans rfl;have hfz12_0 := blk_frozen BK142.out 0;have hfz12_1 := blk_frozen BK142.out 1) | (go_at_call 73;(with_reducible refine (galoisref23_Small.calls k a0_0 _ _ l0_1 t145 _ ?side1 ?side2 A6.out).mono ?_);(case side1 => exact Cst (Kd.C_below HR0_1.out HB.out));(case side2 => exact HC0_1.out);rintro e w13 ⟨rfl, hb⟩;have n0_ := Aside0.mk (blk_below (blkst BK142.out) hb);have n1_ := Aside0.mk (below_step (by repeat (first|(with_reducible first | exact HB.out | apply below_alloc | apply pw_below_drewN | apply below_drew1 | refine below_set ?_ GE142.out) | exact HB.out)) hb);clear BK142;clear HB;have BK142 := n0_;have HB := n1_;clear n0_ n1_;(try clear hb);(try clear hb2);(try clear hk);(try clear hi)))
   go_ret
   exact ⟨by first | rfl | (simp [errW_none, errW_some] <;> rfl) | (simp [*, errW_none, errW_some] <;> rfl), by repeat (first|(with_reducible first | exact HB.out | apply below_alloc | apply pw_below_drewN | apply below_drew1 | refine below_set ?_ GE142.out) | exact HB.out)⟩
  ·rw [if_neg c5] at H
   have c5b0 : (t144 == 0) = false := beq_eq_false_iff_ne.mpr c5
   have c5b1 : (t144 != 0) = true := bne_iff_ne.mpr c5
   obtain rfl := Option.some.inj H
   go_enter Try.func27, Try.ntmps27
   go_wp2_with (first|((with_reducible refine gate_dst (N := 1) rfl ?_);refine box_event ?hg (N := 1) ?hd (cs := #[.int .i64 a0_0, .slice A0_1 l0_1.length c0_1]) (t := 37) ?hr ?_;(case hd => rfl);(case hg => rfl);(case hr => first | (go_simp;done) | (go_simp;rfl));intro gb142 hg w14 hbox hb;have n0_ := Aside0.mk (below_step (bel HB.out) hb);have n1_ := Aside0.mk (hbox);have n2_ := Aside0.mk ((by rw [hg];exact (below_size (bel HB.out)) : w.heap.size ≤ gb142));have n3_ := Aside0.mk ((by rw [hg];exact (below_size (bel HB.out)) : w.heap.size ≤ gb142));clear HB;have HB := n0_;have BK142 := n1_;have GW142 := n2_;have GE142 := n3_;clear n0_ n1_ n2_ n3_;clear hb hbox hg;have hcz15_0 : w14.cell? ⟨gb142, 0, none⟩ = some (.int .i64 a0_0) := (blk_cell BK142.out 0).trans rfl;have hcz15_1 : w14.cell? ⟨gb142, 1, none⟩ = some (.slice A0_1 l0_1.length c0_1) := (blk_cell BK142.out 1).trans rfl;have hfz15_0 := blk_frozen BK142.out 0;have hfz15_1 := blk_frozen BK142.out 1) | ((with_reducible refine gate_callee (f := 41) rfl ?_);refine goesL_ (some 4) rfl rfl Try.func41 (by kernel_rfl) rfl #[.agg #[.int .i64 a0_0, .slice A0_1 l0_1.length c0_1]] rfl (by (try simp only [List.map_toArray, List.map_cons, List.map_nil]);first | done | rfl | (simp only [List.length_drop, List.length_take];rfl)) ?_;(with_reducible refine (galoisref23_Few.calls k a0_0 _ _ l0_1 true _ ?side1 ?side2 A2.out).mono ?_);(case side1 => exact Cst (Kd.C_below HR0_1.out HB.out));(case side2 => exact HC0_1.out);rintro e w16 ⟨rfl, hb⟩;refine ⟨_, rfl, ?_⟩;have n0_ := Aside0.mk (blk_below (blkst BK142.out) hb);have n1_ := Aside0.mk (below_step (by repeat (first|(with_reducible first | exact HB.out | apply below_alloc | apply pw_below_drewN | apply below_drew1 | refine below_set ?_ GE142.out) | exact HB.out)) hb);clear BK142;clear HB;have BK142 := n0_;have HB := n1_;clear n0_ n1_;(try clear hb);(try clear hb2);(try clear hk);(try clear hi);have hcz17_0 : w16.cell? ⟨gb142, 0, none⟩ = some (.int .i64 a0_0) := (blk_cell BK142.out 0).trans rfl;have hcz17_1 : w16.cell? ⟨gb142, 1, none⟩ = some (.slice A0_1 l0_1.length c0_1) := (blk_cell BK142.out 1).trans rfl;have hfz17_0 := blk_frozen BK142.out 0;have hfz17_1 := blk_frozen BK142.out 1) | (go_at_call 28;(with_reducible refine (galoisref23_Check.calls k a0_0 _ _ l0_1 t144 _ ?side1 ?side2 A4.out).mono ?_);(case side1 => exact Cst (Kd.C_below HR0_1.out HB.out));(case side2 => exact HC0_1.out);rintro e w18 ⟨rfl, hb⟩;have n0_ := Aside0.mk (blk_below (blkst BK142.out) hb);have n1_ := Aside0.mk (below_step (by repeat (first|(with_reducible first | exact HB.out | apply below_alloc | apply pw_below_drewN | apply below_drew1 | refine below_set ?_ GE142.out) | exact HB.out)) hb);clear BK142;clear HB;have BK142 := n0_;have HB := n1_;clear n0_ n1_;(try clear hb);(try clear hb2);(try clear hk);(try clear hi)))
   go_ret
   exact ⟨by first | rfl | (simp [errW_none, errW_some] <;> rfl) | (simp [*, errW_none, errW_some] <;> rfl), by repeat (first|(with_reducible first | exact HB.out | apply below_alloc | apply pw_below_drewN | apply below_drew1 | refine below_set ?_ GE142.out) | exact HB.out)⟩
 ·replace c3 := Bool.eq_false_iff.mpr c3
  subst c3
  have H1 : (some true) = some r := by rw [if_neg (show ¬ (false = true) by decide)] at H;exact H
  clear H
  have H := H1
  clear H1
  obtain rfl := Option.some.inj H
  go_enter Try.func27, Try.ntmps27
  go_wp2_with (first|((with_reducible refine gate_dst (N := 1) rfl ?_);refine box_event ?hg (N := 1) ?hd (cs := #[.int .i64 a0_0, .slice A0_1 l0_1.length c0_1]) (t := 37) ?hr ?_;(case hd => rfl);(case hg => rfl);(case hr => first | (go_simp;done) | (go_simp;rfl));intro gb142 hg w19 hbox hb;have n0_ := Aside0.mk (below_step (bel HB.out) hb);have n1_ := Aside0.mk (hbox);have n2_ := Aside0.mk ((by rw [hg];exact (below_size (bel HB.out)) : w.heap.size ≤ gb142));have n3_ := Aside0.mk ((by rw [hg];exact (below_size (bel HB.out)) : w.heap.size ≤ gb142));clear HB;have HB := n0_;have BK142 := n1_;have GW142 := n2_;have GE142 := n3_;clear n0_ n1_ n2_ n3_;clear hb hbox hg;have hcz20_0 : w19.cell? ⟨gb142, 0, none⟩ = some (.int .i64 a0_0) := (blk_cell BK142.out 0).trans rfl;have hcz20_1 : w19.cell? ⟨gb142, 1, none⟩ = some (.slice A0_1 l0_1.length c0_1) := (blk_cell BK142.out 1).trans rfl;have hfz20_0 := blk_frozen BK142.out 0;have hfz20_1 := blk_frozen BK142.out 1) | ((with_reducible refine gate_callee (f := 41) rfl ?_);refine goesL_ (some 4) rfl rfl Try.func41 (by kernel_rfl) rfl #[.agg #[.int .i64 a0_0, .slice A0_1 l0_1.length c0_1]] rfl (by (try simp only [List.map_toArray, List.map_cons, List.map_nil]);first | done | rfl | (simp only [List.length_drop, List.length_take];rfl)) ?_;(with_reducible refine (galoisref23_Few.calls k a0_0 _ _ l0_1 false _ ?side1 ?side2 A2.out).mono ?_);(case side1 => exact Cst (Kd.C_below HR0_1.out HB.out));(case side2 => exact HC0_1.out);rintro e w21 ⟨rfl, hb⟩;refine ⟨_, rfl, ?_⟩;have n0_ := Aside0.mk (blk_below (blkst BK142.out) hb);have n1_ := Aside0.mk (below_step (by repeat (first|(with_reducible first | exact HB.out | apply below_alloc | apply pw_below_drewN | apply below_drew1 | refine below_set ?_ GE142.out) | exact HB.out)) hb);clear BK142;clear HB;have BK142 := n0_;have HB := n1_;clear n0_ n1_;(try clear hb);(try clear hb2);(try clear hk);(try clear hi)))
  go_ret
  exact ⟨by first | rfl | (simp [errW_none, errW_some] <;> rfl) | (simp [*, errW_none, errW_some] <;> rfl), by repeat (first|(with_reducible first | exact HB.out | apply below_alloc | apply pw_below_drewN | apply below_drew1 | refine below_set ?_ GE142.out) | exact HB.out)⟩
end Go.Proofs.Ytmbldnoepjmhhaa.PPg
