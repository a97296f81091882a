-- Printed.
import Derived.Test.YtmbldnoepjmhhaaZPermgroupFormsMg0
import Derived.Test.YtmbldnoepjmhhaaZPermgroupFormsPGrx0
namespace Go.Proofs.Ytmbldnoepjmhhaa.PGr
open Go.RowKit Go.Proofs.YtmbldnoepjmhhaaW.PrintWords Go.Proofs.YtmbldnoepjmhhaaW.PrintLast Go.Proofs.YtmbldnoepjmhhaaW.PrintMore
attribute [local go_sem] max2_int min2_int max_two min_two max_three min_three max_four min_four
set_option linter.unusedVariables false
set_option linter.unusedSimpArgs false
abbrev galoisref22_Identity.f := @Go.Proofs.Ytmbldnoepjmhhaa.PRf.galoisref22_Identity.f
abbrev galoisref22_Identity.mono := @Go.Proofs.Ytmbldnoepjmhhaa.PRf.galoisref22_Identity.mono
abbrev galoisref22_Identity.calls := @Go.Proofs.Ytmbldnoepjmhhaa.PRf.galoisref22_Identity.calls
abbrev galoisref23_Has.f := @Go.Proofs.Ytmbldnoepjmhhaa.PRf.galoisref23_Has.f
abbrev galoisref23_Has.mono := @Go.Proofs.Ytmbldnoepjmhhaa.PRf.galoisref23_Has.mono
abbrev galoisref23_Has.calls := @Go.Proofs.Ytmbldnoepjmhhaa.PRf.galoisref23_Has.calls
abbrev galoisref23_Close.f := @Go.Proofs.Ytmbldnoepjmhhaa.Bs.galoisref23_Close.f
abbrev galoisref23_Close.mono := @Go.Proofs.Ytmbldnoepjmhhaa.Bs.galoisref23_Close.mono
abbrev galoisref23_Close.calls := @Go.Proofs.Ytmbldnoepjmhhaa.Bs.galoisref23_Close.calls
def galoisref23_Greedy.l0 : Nat → Int → List (List Int) → List (List Int) → Int → Int → List (List Int) → Option (Int × (List (List Int)))
 | 0, _, _, _, _, _, _ => none
 | k + 1, x0, x1, x6, x7, x104000, x104001 => if x7 < (x1.length : Int) then (if 0 ≤ x7 then ((galoisref23_Has.f k x6 (rd_L1 x1 x7)).bind fun t111 => (if t111 = true then (galoisref23_Greedy.l0 k x0 x1 x6 (wrap64 (x7 + 1)) x104000 x104001) else (if x104001.length < 5864062014805 then ((some (x104001 ++ [rd_L1 x1 x7] : List (List Int))).bind fun y113 => ((galoisref23_Close.f k x0 y113).bind fun bt116 => (galoisref23_Greedy.l0 k x0 x1 bt116.1 (wrap64 (x7 + 1)) x104000 y113))) else (none)))) else (none)) else (some (x104000, x104001))
def galoisref23_Greedy.f (k : Nat) (a0 : Int) (l1 : List (List Int)) : Option (Int × (List (List Int))) := (galoisref22_Identity.f k a0).bind fun t104 => (galoisref23_Greedy.l0 k a0 l1 (([t104] : List (List Int))) 0 a0 ([] : List (List Int)))
def galoisref23_Greedy.T7 : Bool × List (List Nat × List Nat) := (true, [([], []), ([0], [0]), ([], []), ([], []), ([2, 3], [2, 3]), ([4], [4]), ([5], [5]), ([1, 6], [1, 6]), ([0, 1, 2, 3, 4, 5, 6, 7], []), ([8, 7, 7, 0, 1, 2, 3, 4, 5, 6, 7], [7, 8])])
def galoisref23_Greedy.B7 : List Nat := [0, 1, 0, 0, 12, 28, 60, 127, 255, 511]
theorem galoisref23_Greedy.tab7 : rtab .any (opsOf Try.f38 7) = galoisref23_Greedy.T7 := by kernel_rfl
theorem galoisref23_Greedy.bits7 : waitsOk galoisref23_Greedy.T7.2 galoisref23_Greedy.B7 = true := by kernel_rfl
set_option maxHeartbeats 8000000 in
set_option maxRecDepth 100000 in
theorem galoisref23_Greedy.calls (k : Nat) (a0 : Int) (P1_ : Nat → Prop) (A1 : Option Addr) (c1 : Nat) (l1 : List (List Int)) (r1 : Int) (r2 : List (List Int)) (w : World) (hs1 : Kd.V (Kd.slice 3 (Kd.int .i64)) 49 w w.heap.size (fun k_ => P1_ k_) (.slice A1 l1.length c1) l1) (h : galoisref23_Greedy.f k a0 l1 = some (r1, r2)) :
  Calls Try.prog 38 #[.int .i64 a0, .slice A1 l1.length c1] w fun e w' => ∃ v1_ : Value, e = .returned (.agg #[.int .i64 r1, v1_]) ∧ Kd.N (Kd.slice 3 (Kd.int .i64)) 49 w' w.heap.size (fun k_ => (P1_ k_ ∨ w.heap.size ≤ k_)) v1_ r2 ∧ Below w.heap.size w w' := by
 have hu37 := Try.underlying37
 have HO1 := Aside0.mk (show Kd.V (Kd.slice 3 (Kd.int .i64)) 49 w w.heap.size (fun k_ => (P1_ k_ ∨ w.heap.size ≤ k_)) (.slice A1 l1.length c1) l1 from Kd.V_mono hs1 (fun k_ hk => .inl hk))
 have HB := Aside0.mk (Below.refl w.heap.size w)
 have H : ((galoisref22_Identity.f k a0).bind fun t104 => (galoisref23_Greedy.l0 k a0 l1 (([t104] : List (List Int))) 0 a0 ([] : List (List Int)))) = some (r1, r2) := h
 clear h
 replace H := Option.bind_eq_some_iff.mp H
 obtain ⟨t104, A30, H⟩ := H
 replace H : (galoisref23_Greedy.l0 k a0 l1 (([t104] : List (List Int))) 0 a0 ([] : List (List Int))) = some (r1, r2) := H
 have A3 := Aside0.mk A30
 clear A30
 obtain ⟨y107, hy107⟩ : ∃ y_ : List (List Int), y_ = (([t104] : List (List Int))) := ⟨_, rfl⟩
 replace H : (galoisref23_Greedy.l0 k a0 l1 y107 0 a0 ([] : List (List Int))) = some (r1, r2) := by first | (rw [hy107];with_reducible exact H) | (have H2_ := (Option.bind_some _ _).symm.trans H;rw [hy107];with_reducible exact H2_) | (have H2_ := (Option.bind_some _ _).symm.trans H;with_reducible exact H2_) | with_reducible exact H | (rw [hy107];exact H) | exact H
 have Ny107 := Aside0.mk hy107
 clear hy107
 have H' := Aside0.mk H
 clear H
 go_enter Try.func38, Try.ntmps38
 go_wp2_with (first|((with_reducible refine gate_dst (N := 4) rfl ?_);refine box_event ?hg (N := 4) ?hd (cs := #[.int .i64 0, .slice none 0 0]) (t := 37) ?hr ?_;(case hd => rfl);(case hg => rfl);(case hr => first | (go_simp;done) | (go_simp;rfl));intro gb102 hg w4 hbox hb;have n0_ := Aside0.mk (Kd.V_below (Kd.V_elderB (Vst HO1.out) gb102 (Nat.le_of_eq hg.symm)) hb);have n1_ := Aside0.mk (below_step (bel HB.out) hb);have n2_ := Aside0.mk (hbox);have n3_ := Aside0.mk ((by rw [hg];exact (below_size (bel HB.out)) : w.heap.size ≤ gb102));have n4_ := Aside0.mk ((by rw [hg];exact (below_size (bel HB.out)) : w.heap.size ≤ gb102));clear HO1;clear HB;have HO1 := n0_;have HB := n1_;have BK102 := n2_;have GW102 := n3_;have GE102 := n4_;clear n0_ n1_ n2_ n3_ n4_;clear hb hbox hg) | ((with_reducible refine gate_dst (N := 5) rfl ?_);refine box_event ?hg (N := 5) ?hd (cs := #[.int .i64 0, .slice none 0 0]) (t := 37) ?hr ?_;(case hd => rfl);(case hg => rfl);(case hr => first | (go_simp;done) | (go_simp;rfl));intro gb103 hg w5 hbox hb;have n0_ := Aside0.mk (Kd.V_below (Kd.V_elderB (Vst HO1.out) gb103 (Nat.le_of_eq hg.symm)) hb);have n1_ := Aside0.mk (blk_below (blkst BK102.out) hb);have n2_ := Aside0.mk (below_step (by repeat (first|(with_reducible first | exact HB.out | apply below_alloc | apply pw_below_drewN | apply below_drew1 | refine below_set ?_ GE102.out) | exact HB.out)) hb);have n3_ := Aside0.mk (hbox);have n4_ := Aside0.mk ((by rw [hg];exact (below_size (by repeat (first|(with_reducible first | exact HB.out | apply below_alloc | apply pw_below_drewN | apply below_drew1 | refine below_set ?_ GE102.out) | exact HB.out))) : w.heap.size ≤ gb103));have n5_ := Aside0.mk ((by rw [hg];exact (below_size (by repeat (first|(with_reducible first | exact HB.out | apply below_alloc | apply pw_below_drewN | apply below_drew1 | refine below_set ?_ GE102.out) | exact HB.out))) : w.heap.size ≤ gb103));have n6_ := Aside0.mk ((by rw [hg];exact Nat.ne_of_lt (blk_lt (g := gb102) (o := .cells #[.int .i64 0, .slice none 0 0] 37 (0, 0)) (blkst BK102.out)) : gb102 ≠ gb103));have n7_ := Aside0.mk ((by rw [hg];exact Nat.ne_of_gt (blk_lt (g := gb102) (o := .cells #[.int .i64 0, .slice none 0 0] 37 (0, 0)) (blkst BK102.out)) : gb103 ≠ gb102));clear HO1;clear BK102;clear HB;have HO1 := n0_;have BK102 := n1_;have HB := n2_;have BK103 := n3_;have GW103 := n4_;have GE103 := n5_;have NB102_103 := n6_;have NB103_102 := n7_;clear n0_ n1_ n2_ n3_ n4_ n5_ n6_ n7_;clear hb hbox hg;have hnb6 := NB103_102.out;have hnc6 := NB102_103.out;have hcz7_0 : w5.cell? ⟨gb103, 0, none⟩ = some (.int .i64 0) := (blk_cell BK103.out 0).trans rfl;have hcz7_1 : w5.cell? ⟨gb103, 1, none⟩ = some (.slice none 0 0) := (blk_cell BK103.out 1).trans rfl;have hfz7_0 := blk_frozen BK103.out 0;have hfz7_1 := blk_frozen BK103.out 1) | ((with_reducible refine gate_callee (f := 25) rfl ?_);refine goesL_ (some 11) rfl rfl Try.func25 (by kernel_rfl) rfl #[.int .i64 a0] rfl (by (try simp only [List.map_toArray, List.map_cons, List.map_nil]);first | done | rfl | (simp only [List.length_drop, List.length_take];rfl)) ?_;(with_reducible refine (galoisref22_Identity.calls k a0 t104 _ A3.out).mono ?_);rintro e w8 ⟨v105, rfl, ho0, hb⟩;refine ⟨_, rfl, ?_⟩;have n0_ := Aside0.mk (Kd.V_elder' (by (with_reducible repeat (first|apply Kd.V_alloc | apply Kd.V_drewN | apply Kd.V_drew));exact (Kd.V_mono (Kd.V_far (p := ⟨gb103, 1, none⟩) (Kd.V_far (p := ⟨gb103, 0, none⟩) (Kd.V_mono HO1.out (fun k_ hk => (⟨hk, hk.2⟩ : _ ∧ k_ ≠ gb103))) (fun _ hk => hk.2) (.int .i64 a0)) (fun _ hk => hk.2) (.slice none 0 0)) (fun _ h_ => h_.1))) (Kd.R_base ho0) hb);have n1_ := Aside0.mk (Kd.R_lower (Kd.R_newM (M := fun k_ => (w.heap.size ≤ k_)) ho0 (below_size (by repeat (first|(with_reducible first | exact HB.out | apply below_alloc | apply pw_below_drewN | apply below_drew1 | refine below_set ?_ GE102.out | refine below_set ?_ GE103.out) | exact HB.out))) (fun k_ h_ => h_)) (below_size (by repeat (first|(with_reducible first | exact HB.out | apply below_alloc | apply pw_below_drewN | apply below_drew1 | refine below_set ?_ GE102.out | refine below_set ?_ GE103.out) | exact HB.out))));have n2_ := Aside0.mk (blk_below (g := gb102) (o := .cells #[.int .i64 0, .slice none 0 0] 37 (0, 0)) (by (with_reducible repeat (first|refine blk_drewN ?_ _ | refine blk_drew ?_ | refine blk_alloc ?_ _));refine blk_far ?_ NB102_103.out _;(with_reducible repeat (first|refine blk_drewN ?_ _ | refine blk_drew ?_ | refine blk_alloc ?_ _));refine blk_far ?_ NB102_103.out _;(with_reducible repeat (first|refine blk_drewN ?_ _ | refine blk_drew ?_ | refine blk_alloc ?_ _));exact BK102.out) hb);have n3_ := Aside0.mk (blk_below (g := gb103) (o := .cells #[.int .i64 a0, .slice none 0 0] 37 (0, 0)) (by (with_reducible repeat (first|refine blk_drewN ?_ _ | refine blk_drew ?_ | refine blk_alloc ?_ _));refine blk_put (cs := #[.int .i64 a0, .slice none 0 0]) ?_ 1 _ rfl;(with_reducible repeat (first|refine blk_drewN ?_ _ | refine blk_drew ?_ | refine blk_alloc ?_ _));refine blk_put (cs := #[.int .i64 0, .slice none 0 0]) ?_ 0 _ rfl;(with_reducible repeat (first|refine blk_drewN ?_ _ | refine blk_drew ?_ | refine blk_alloc ?_ _));exact BK103.out) hb);have n4_ := Aside0.mk (below_step (by repeat (first|(with_reducible first | exact HB.out | apply below_alloc | apply pw_below_drewN | apply below_drew1 | refine below_set ?_ GE102.out | refine below_set ?_ GE103.out) | exact HB.out)) hb);clear HO1;clear BK102;clear BK103;clear HB;have HO1 := n0_;have HO106 := n1_;have BK102 := n2_;have BK103 := n3_;have HB := n4_;clear n0_ n1_ n2_ n3_ n4_;(try clear hb);(try clear hb2);(try clear hk);(try clear hi);(try clear ho0);obtain ⟨Ao9, co9, eo9⟩ := Kd.R_slice HO106.out;subst eo9) | ((with_reducible refine gate_dst (N := 12) rfl ?_);refine Kd.N_lit (Kd.slice 3 (Kd.int .i64)) _ 49 ?hg (N' := 12) ?hd (xs := ([t104] : List (List Int))) (inner := [.slice Ao9 t104.length co9]) (ok := (fun k_ => (P1_ k_ ∨ w.heap.size ≤ k_) ∧ k_ ≠ gb102 ∧ k_ ≠ gb103)) (okp := (fun k_ => (P1_ k_ ∨ w.heap.size ≤ k_) ∧ k_ ≠ gb102 ∧ k_ ≠ gb103)) ?hr ?hp (fun _ hk => hk) ((show ∀ k_, w8.heap.size ≤ k_ → (fun k_ => (P1_ k_ ∨ w.heap.size ≤ k_) ∧ k_ ≠ gb102 ∧ k_ ≠ gb103) k_ from fun k_ hk => ⟨(.inr (Nat.le_trans (below_size (by repeat (first|(with_reducible first | exact HB.out | apply below_alloc | apply pw_below_drewN | apply below_drew1 | refine below_set ?_ GE102.out | refine below_set ?_ GE103.out) | exact HB.out))) hk)), Kd.freshB (g := gb102) (o := .cells #[.int .i64 0, .slice none 0 0] 37 (0, 0)) (blkst BK102.out) k_ hk, Kd.freshB (g := gb103) (o := .cells #[.int .i64 a0, .slice none 0 0] 37 (0, 0)) (blkst BK103.out) k_ hk⟩) _ (Nat.le_refl _)) (Below.refl _ _) (Nat.le_refl _) (by simp) ?_;(case hd => rfl);(case hg => rfl);(case hr => first | (go_simp;done) | (go_simp;rfl));(case hp => exact (Reps.one (show Kd.FK (Kd.slice 3 (Kd.int .i64)) _ _ t104 [.slice Ao9 t104.length co9] from (Kd.FK_slice_mk (Kd.R_reads' (Kd.R_mono (ok' := (fun k_ => (P1_ k_ ∨ w.heap.size ≤ k_) ∧ k_ ≠ gb102 ∧ k_ ≠ gb103)) (Kd.R_types (Kd.R_types (HO106.out) BK102.out (by decide)) BK103.out (by decide)) (fun k_ hk => ⟨(.inr (hk.1.1.1)), ⟨hk.1.2, hk.2⟩⟩))).2.1 (Kd.R_F (Kd.R_mono (ok' := (fun k_ => (P1_ k_ ∨ w.heap.size ≤ k_) ∧ k_ ≠ gb102 ∧ k_ ≠ gb103)) (Kd.R_types (Kd.R_types (HO106.out) BK102.out (by decide)) BK103.out (by decide)) (fun k_ hk => ⟨(.inr (hk.1.1.1)), ⟨hk.1.2, hk.2⟩⟩))))) (Reps.none _ _)));intro v108 w10 ho11 hb hg_ hnew_;clear hg_ hnew_;(first|rw [← Ny107.out] at ho11 | (simp only [Int.reduceToNat] at ho11;rw [← Ny107.out] at ho11));have n0_ := Aside0.mk (Kd.V_elder' (Vst HO1.out) (by first | exact Kd.N_base ho11 | exact Kd.S_base ho11 | exact Kd.R_base ho11) hb);have n1_ := Aside0.mk (Kd.N_lower ho11 (below_size (by repeat (first|(with_reducible first | exact HB.out | apply below_alloc | apply pw_below_drewN | apply below_drew1 | refine below_set ?_ GE102.out | refine below_set ?_ GE103.out) | exact HB.out))));have n2_ := Aside0.mk (blk_below (blkst BK102.out) hb);have n3_ := Aside0.mk (blk_below (blkst BK103.out) hb);have n4_ := Aside0.mk (below_step (by repeat (first|(with_reducible first | exact HB.out | apply below_alloc | apply pw_below_drewN | apply below_drew1 | refine below_set ?_ GE102.out | refine below_set ?_ GE103.out) | exact HB.out)) hb);clear HO1;clear BK102;clear BK103;clear HB;clear HO106;have HO1 := n0_;have HO109 := n1_;have BK102 := n2_;have BK103 := n3_;have HB := n4_;clear n0_ n1_ n2_ n3_ n4_;clear hb ho11))
 go_loopg [6, 7] k (fun kq v6 v7 w' => ∃ (x6_1 : List (List Int)) (x7_1 : Int) (x104001_1 : List (List Int)) (u104001 : Value), v7 = .int .i64 x7_1 ∧ Aside0 (galoisref23_Greedy.l0 kq a0 l1 x6_1 x7_1 a0 x104001_1 = some (r1, r2)) ∧ Aside0 (kq ≤ k) ∧ Aside0 (Kd.V (Kd.slice 3 (Kd.int .i64)) 49 w' w.heap.size (fun k_ => (P1_ k_ ∨ w.heap.size ≤ k_) ∧ some k_ ≠ (v6 : Value).ownBlock ∧ some k_ ≠ (u104001 : Value).ownBlock ∧ k_ ≠ gb102 ∧ k_ ≠ gb103) (.slice A1 l1.length c1) l1) ∧ Aside0 (Kd.N (Kd.slice 3 (Kd.int .i64)) 49 w' w.heap.size (fun k_ => (P1_ k_ ∨ w.heap.size ≤ k_) ∧ some k_ ≠ (u104001 : Value).ownBlock ∧ k_ ≠ gb102 ∧ k_ ≠ gb103) v6 x6_1) ∧ Aside0 (Kd.N (Kd.slice 3 (Kd.int .i64)) 49 w' w.heap.size (fun k_ => (P1_ k_ ∨ w.heap.size ≤ k_) ∧ some k_ ≠ (v6 : Value).ownBlock ∧ k_ ≠ gb102 ∧ k_ ≠ gb103) u104001 x104001_1) ∧ Aside0 (w'.heap[gb102]? = some (.cells #[.int .i64 0, (.slice none 0 0)] 37 (0, 0))) ∧ Aside0 (w'.heap[gb103]? = some (.cells #[.int .i64 a0, u104001] 37 (0, 0))) ∧ Aside0 (Below w.heap.size w w'))
 case atStart => exact ⟨(y107), (0), (([] : List (List Int))), (.slice none 0 0), (by first | rfl | (simp;done) | (simp [*];done)), H', ⟨Nat.le_refl _⟩, ⟨by (with_reducible repeat (first|apply Kd.V_alloc | apply Kd.V_drewN | apply Kd.V_drew));exact Kd.V_mono HO1.out (fun _ hk => ⟨hk.1.1.1.1, ⟨hk.2, ⟨(by simp [Value.ownBlock]), ⟨hk.1.1.1.2, hk.1.1.2⟩⟩⟩⟩)⟩, ⟨by (with_reducible repeat (first|apply Kd.N_alloc | apply Kd.N_drewN | apply Kd.N_drew));exact Kd.N_mono HO109.out (fun _ hk => ⟨hk.1, ⟨(by simp [Value.ownBlock]), ⟨hk.2.1, hk.2.2⟩⟩⟩)⟩, ⟨by first | exact Kd.S_nil _ _ _ _ _ | exact Kd.N_nil _ _ _ _ _ | exact Kd.V_nil _ _ _ _ _ | exact Kd.Q_nil _ _ _ _ _ | exact Kd.R_nil _ _ _ _ _⟩, ⟨blkst BK102.out⟩, ⟨blkst BK103.out⟩, ⟨by repeat (first|(with_reducible first | exact HB.out | apply below_alloc | apply pw_below_drewN | apply below_drew1 | refine below_set ?_ GE102.out | refine below_set ?_ GE103.out) | exact HB.out)⟩⟩
 case round =>
  clear H'
  try clear c1
  try clear c2
  try clear p2
  try clear c3
  try clear c6
  try clear hcz7_0
  try clear hcz7_1
  try clear hfz7_0
  try clear hfz7_1
  obtain ⟨x6_1, x7_1, x104001_1, u104001, rfl, HA, HK1, HO_1, HO_6, HO_104001, BK102, BK103, HB⟩ := hrel
  cases gk with
  | zero => exact absurd HA.out (by simp [galoisref23_Greedy.l0])
  | succ k1 =>
   have H := HA.out
   clear HA
   simp only [galoisref23_Greedy.l0] at H
   by_cases c12 : x7_1 < (l1.length : Int)
   ·rw [if_pos c12] at H
    have c12b0 : decide (x7_1 < (l1.length : Int)) = true := decide_eq_true c12
    clear c12
    by_cases c13 : 0 ≤ x7_1
    ·rw [if_pos c13] at H
     have c13b0 : decide (0 ≤ x7_1) = true := decide_eq_true c13
     clear c13
     replace H := Option.bind_eq_some_iff.mp H
     obtain ⟨t111, A140, H⟩ := H
     replace H : (if t111 = true then (galoisref23_Greedy.l0 k1 a0 l1 x6_1 (wrap64 (x7_1 + 1)) a0 x104001_1) else (if x104001_1.length < 5864062014805 then ((some (x104001_1 ++ [rd_L1 l1 x7_1] : List (List Int))).bind fun y113 => ((galoisref23_Close.f k1 a0 y113).bind fun bt116 => (galoisref23_Greedy.l0 k1 a0 l1 bt116.1 (wrap64 (x7_1 + 1)) a0 y113))) else (none))) = some (r1, r2) := H
     have A14 := Aside0.mk A140
     clear A140
     by_cases c15 : t111 = true
     ·subst c15
      have H1 : (galoisref23_Greedy.l0 k1 a0 l1 x6_1 (wrap64 (x7_1 + 1)) a0 x104001_1) = some (r1, r2) := by rw [if_pos rfl] at H;exact H
      clear H
      have H := H1
      clear H1
      have H' := Aside0.mk H
      clear H
      have p110 : 0 ≤ (x7_1 : Int) := of_decide_eq_true (by assumption)
      have q110 : x7_1 < (l1.length : Int) := of_decide_eq_true (by assumption)
      obtain ⟨ad110, A110_0, c110_0, e110, hx110_0, hl110_0, hi110_0⟩ := at_L1 (Kd.V_reads' HO_1.out).2.2 x7_1 p110 q110
      cases e110
      obtain ⟨ce110, hce110, hMe110, hcc110⟩ := Kd.V_get HO_1.out [] x7_1 p110 (by first | exact q110 | exact of_decide_eq_true (by assumption) | (have e_ := (Kd.V_reads' HO_1.out).1;omega))
      obtain ⟨ua110_0, uc110_0, rfl, ul110_0, ge110_0⟩ := Kd.FK_slice_open hMe110
      have hv110_0 := hcc110 0 _ rfl
      rw [Nat.add_zero, show ((Kd.slice 3 (Kd.int .i64))).sz = 1 from rfl, Nat.mul_one] at hv110_0
      replace hv110_0 := Option.some.inj (hv110_0.symm.trans hx110_0)
      injection hv110_0 with hva_ hvn_ hvc_
      rw [hva_] at ge110_0
      rw [hvc_] at ul110_0
      have HL110_0 := Aside0.mk (show Kd.V (Kd.int .i64) 3 _ w.heap.size _ _ (rd_L1 l1 x7_1) from Kd.V_mk ul110_0 ge110_0)
      clear hva_ hvn_ hvc_ ge110_0 ul110_0
      clear hcc110 hce110
      have HR110_0 := Aside0.mk hi110_0
      have HC110_0 := Aside0.mk hl110_0
      clear hi110_0 hl110_0
      replace p110 := eq_true p110
      replace q110 := eq_true q110
      obtain ⟨Ao16, co16, eo16⟩ := Kd.N_slice HO_6.out
      subst eo16
      go_wp2_with (first|((with_reducible refine gate_callee (f := 75) rfl ?_);refine goesL_ (some 24) rfl rfl Try.func75 (by kernel_rfl) rfl #[.slice Ao16 x6_1.length co16, .slice A110_0 (rd_L1 l1 x7_1).length c110_0] rfl (by (try simp only [List.map_toArray, List.map_cons, List.map_nil]);first | done | rfl | (simp only [List.length_drop, List.length_take];rfl)) ?_;(with_reducible refine (galoisref23_Has.calls k1 _ _ x6_1 _ _ (rd_L1 l1 x7_1) true _ ?side1 ?side2 ?side3 ?side4 A14.out).mono ?_);(case side1 => repeat (first|exact (Kd.N_reads' HO_6.out).2.2 | (with_reducible refine Kd.C_alloc ?_ _) | (with_reducible refine Kd.C_drewN ?_ _) | (with_reducible refine Kd.C_drew ?_)));(case side2 => exact (Kd.N_reads' HO_6.out).2.1);(case side3 => repeat (first|exact (by repeat (first|(with_reducible exact HR110_0.out) | (with_reducible refine Kd.C_alloc ?_ _) | (with_reducible refine Kd.C_drewN ?_ _) | (with_reducible refine Kd.C_drew ?_) | exact HR110_0.out)) | (with_reducible refine Kd.C_alloc ?_ _) | (with_reducible refine Kd.C_drewN ?_ _) | (with_reducible refine Kd.C_drew ?_)));(case side4 => exact HC110_0.out);rintro e w' ⟨rfl, ⟨nd, rfl⟩⟩;refine ⟨_, rfl, ?_⟩))
      go_roundg k1
      case measure => have := HK1.out;omega
      case rel => exact ⟨(x6_1), (wrap64 (x7_1 + 1)), (x104001_1), (u104001), (by first | rfl | (simp;done) | (simp [*];done)), H', ⟨by have := HK1.out;omega⟩, ⟨Vst HO_1.out⟩, ⟨Nst HO_6.out⟩, ⟨Nst HO_104001.out⟩, ⟨blkst BK102.out⟩, ⟨blkst BK103.out⟩, ⟨by repeat (first|(with_reducible first | exact HB.out | apply below_alloc | apply pw_below_drewN | apply below_drew1 | refine below_set ?_ GE102.out | refine below_set ?_ GE103.out) | exact HB.out)⟩⟩
     ·replace c15 := Bool.eq_false_iff.mpr c15
      subst c15
      have H1 : (if x104001_1.length < 5864062014805 then ((some (x104001_1 ++ [rd_L1 l1 x7_1] : List (List Int))).bind fun y113 => ((galoisref23_Close.f k1 a0 y113).bind fun bt116 => (galoisref23_Greedy.l0 k1 a0 l1 bt116.1 (wrap64 (x7_1 + 1)) a0 y113))) else (none)) = some (r1, r2) := by rw [if_neg (show ¬ (false = true) by decide)] at H;exact H
      clear H
      have H := H1
      clear H1
      by_cases c17 : x104001_1.length < 5864062014805
      ·rw [if_pos c17] at H
       have LMc17 := Aside0.mk c17
       clear c17
       obtain ⟨y113, hy113⟩ : ∃ y_ : List (List Int), y_ = (x104001_1 ++ [rd_L1 l1 x7_1]) := ⟨_, rfl⟩
       replace H : ((galoisref23_Close.f k1 a0 y113).bind fun bt116 => (galoisref23_Greedy.l0 k1 a0 l1 bt116.1 (wrap64 (x7_1 + 1)) a0 y113)) = some (r1, r2) := by first | (rw [hy113];with_reducible exact H) | (have H2_ := (Option.bind_some _ _).symm.trans H;rw [hy113];with_reducible exact H2_) | (have H2_ := (Option.bind_some _ _).symm.trans H;with_reducible exact H2_) | with_reducible exact H | (rw [hy113];exact H) | exact H
       have Ny113 := Aside0.mk hy113
       clear hy113
       replace H := Option.bind_eq_some_iff.mp H
       obtain ⟨⟨t116, t117⟩, A180, H⟩ := H
       replace H : (galoisref23_Greedy.l0 k1 a0 l1 t116 (wrap64 (x7_1 + 1)) a0 y113) = some (r1, r2) := H
       have A18 := Aside0.mk A180
       clear A180
       have H' := Aside0.mk H
       clear H
       have p110 : 0 ≤ (x7_1 : Int) := of_decide_eq_true (by assumption)
       have q110 : x7_1 < (l1.length : Int) := of_decide_eq_true (by assumption)
       obtain ⟨ad110, A110_0, c110_0, e110, hx110_0, hl110_0, hi110_0⟩ := at_L1 (Kd.V_reads' HO_1.out).2.2 x7_1 p110 q110
       cases e110
       obtain ⟨ce110, hce110, hMe110, hcc110⟩ := Kd.V_get HO_1.out [] x7_1 p110 (by first | exact q110 | exact of_decide_eq_true (by assumption) | (have e_ := (Kd.V_reads' HO_1.out).1;omega))
       obtain ⟨ua110_0, uc110_0, rfl, ul110_0, ge110_0⟩ := Kd.FK_slice_open hMe110
       have hv110_0 := hcc110 0 _ rfl
       rw [Nat.add_zero, show ((Kd.slice 3 (Kd.int .i64))).sz = 1 from rfl, Nat.mul_one] at hv110_0
       replace hv110_0 := Option.some.inj (hv110_0.symm.trans hx110_0)
       injection hv110_0 with hva_ hvn_ hvc_
       rw [hva_] at ge110_0
       rw [hvc_] at ul110_0
       have HL110_0 := Aside0.mk (show Kd.V (Kd.int .i64) 3 _ w.heap.size _ _ (rd_L1 l1 x7_1) from Kd.V_mk ul110_0 ge110_0)
       clear hva_ hvn_ hvc_ ge110_0 ul110_0
       clear hcc110 hce110
       have HR110_0 := Aside0.mk hi110_0
       have HC110_0 := Aside0.mk hl110_0
       clear hi110_0 hl110_0
       replace p110 := eq_true p110
       replace q110 := eq_true q110
       obtain ⟨Ao19, co19, eo19⟩ := Kd.N_slice HO_6.out
       subst eo19
       try go_wp2_with (first|((with_reducible refine gate_callee (f := 75) rfl ?_);refine goesL_ (some 24) rfl rfl Try.func75 (by kernel_rfl) rfl #[.slice Ao19 x6_1.length co19, .slice A110_0 (rd_L1 l1 x7_1).length c110_0] rfl (by (try simp only [List.map_toArray, List.map_cons, List.map_nil]);first | done | rfl | (simp only [List.length_drop, List.length_take];rfl)) ?_;(with_reducible refine (galoisref23_Has.calls k1 _ _ x6_1 _ _ (rd_L1 l1 x7_1) false _ ?side1 ?side2 ?side3 ?side4 A14.out).mono ?_);(case side1 => repeat (first|exact (Kd.N_reads' HO_6.out).2.2 | (with_reducible refine Kd.C_alloc ?_ _) | (with_reducible refine Kd.C_drewN ?_ _) | (with_reducible refine Kd.C_drew ?_)));(case side2 => exact (Kd.N_reads' HO_6.out).2.1);(case side3 => repeat (first|exact (by repeat (first|(with_reducible exact HR110_0.out) | (with_reducible refine Kd.C_alloc ?_ _) | (with_reducible refine Kd.C_drewN ?_ _) | (with_reducible refine Kd.C_drew ?_) | exact HR110_0.out)) | (with_reducible refine Kd.C_alloc ?_ _) | (with_reducible refine Kd.C_drewN ?_ _) | (with_reducible refine Kd.C_drew ?_)));(case side4 => exact HC110_0.out);rintro e w' ⟨rfl, ⟨nd, rfl⟩⟩;refine ⟨_, rfl, ?_⟩;(try (rw [drewN_self wr];generalize hq_ : World.drewN wr _ = wr;have n0_ : Aside0 (Kd.V (Kd.int .i64) 3 wr w.heap.size (fun k_ => (P1_ k_ ∨ w.heap.size ≤ k_) ∧ some k_ ≠ (u104001 : Value).ownBlock ∧ some k_ ≠ (.slice Ao19 x6_1.length co19 : Value).ownBlock ∧ k_ ≠ gb102 ∧ k_ ≠ gb103) (.slice A110_0 (rd_L1 l1 x7_1).length c110_0) (rd_L1 l1 x7_1)) := ⟨by rw [← hq_];exact (by (with_reducible repeat (first|apply Kd.V_alloc | apply Kd.V_drewN | apply Kd.V_drew));exact Kd.V_mono HL110_0.out (fun _ hk => ⟨hk.1, ⟨hk.2.2.1, ⟨hk.2.1, ⟨hk.2.2.2.1, hk.2.2.2.2⟩⟩⟩⟩))⟩;have n1_ : Aside0 (Kd.V (Kd.slice 3 (Kd.int .i64)) 49 wr w.heap.size (fun k_ => (P1_ k_ ∨ w.heap.size ≤ k_) ∧ some k_ ≠ (u104001 : Value).ownBlock ∧ some k_ ≠ (.slice Ao19 x6_1.length co19 : Value).ownBlock ∧ k_ ≠ gb102 ∧ k_ ≠ gb103) (.slice (some ad110) l1.length c1) l1) := ⟨by rw [← hq_];exact (by (with_reducible repeat (first|apply Kd.V_alloc | apply Kd.V_drewN | apply Kd.V_drew));exact Kd.V_mono HO_1.out (fun _ hk => ⟨hk.1, ⟨hk.2.2.1, ⟨hk.2.1, ⟨hk.2.2.2.1, hk.2.2.2.2⟩⟩⟩⟩))⟩;have n2_ : Aside0 (Kd.N (Kd.slice 3 (Kd.int .i64)) 49 wr w.heap.size (fun k_ => (P1_ k_ ∨ w.heap.size ≤ k_) ∧ some k_ ≠ (.slice Ao19 x6_1.length co19 : Value).ownBlock ∧ k_ ≠ gb102 ∧ k_ ≠ gb103) u104001 x104001_1) := ⟨by rw [← hq_];exact (Nst HO_104001.out)⟩;have n3_ : Aside0 (Kd.N (Kd.slice 3 (Kd.int .i64)) 49 wr w.heap.size (fun k_ => (P1_ k_ ∨ w.heap.size ≤ k_) ∧ some k_ ≠ (u104001 : Value).ownBlock ∧ k_ ≠ gb102 ∧ k_ ≠ gb103) (.slice Ao19 x6_1.length co19) x6_1) := ⟨by rw [← hq_];exact (Nst HO_6.out)⟩;have n4_ : Aside0 (wr.heap[gb102]? = some (.cells #[.int .i64 0, .slice none 0 0] 37 (0, 0))) := ⟨by rw [← hq_];exact (blkst BK102.out)⟩;have n5_ : Aside0 (wr.heap[gb103]? = some (.cells #[.int .i64 a0, u104001] 37 (0, 0))) := ⟨by rw [← hq_];exact (blkst BK103.out)⟩;have n6_ : Aside0 (Below w.heap.size w wr) := ⟨by rw [← hq_];exact (by repeat (first|(with_reducible first | exact HB.out | apply below_alloc | apply pw_below_drewN | apply below_drew1 | refine below_set ?_ GE102.out | refine below_set ?_ GE103.out) | exact HB.out))⟩;have n7_ : Aside0 (Kd.C (Kd.int .i64) wr A110_0 (rd_L1 l1 x7_1).length (rd_L1 l1 x7_1)) := ⟨by rw [← hq_];exact (by repeat (first|(with_reducible exact HR110_0.out) | (with_reducible refine Kd.C_alloc ?_ _) | (with_reducible refine Kd.C_drewN ?_ _) | (with_reducible refine Kd.C_drew ?_) | exact HR110_0.out))⟩;clear HL110_0 HO_1 HO_104001 HO_6 BK102 BK103 HB HR110_0 hq_;have HL110_0 := n0_;have HO_1 := n1_;have HO_104001 := n2_;have HO_6 := n3_;have BK102 := n4_;have BK103 := n5_;have HB := n6_;have HR110_0 := n7_;clear n0_ n1_ n2_ n3_ n4_ n5_ n6_ n7_))))
       have n0_ := Aside0.mk (Kd.V_drew HO_1.out)
       have n1_ := Aside0.mk (Kd.N_drew HO_6.out)
       have n2_ := Aside0.mk (Kd.N_drew HO_104001.out)
       have n3_ := Aside0.mk (Kd.V_drew HL110_0.out)
       have n4_ := Aside0.mk (blk_drew BK102.out)
       have n5_ := Aside0.mk (blk_drew BK103.out)
       have n6_ := Aside0.mk (Kd.C_drew HR110_0.out)
       have n7_ := Aside0.mk (below_drew1 HB.out)
       clear HO_1
       clear HO_6
       clear HO_104001
       clear HL110_0
       clear BK102
       clear BK103
       clear HR110_0
       clear HB
       have HO_1 := n0_
       have HO_6 := n1_
       have HO_104001 := n2_
       have HL110_0 := n3_
       have BK102 := n4_
       have BK103 := n5_
       have HR110_0 := n6_
       have HB := n7_
       clear n0_ n1_ n2_ n3_ n4_ n5_ n6_ n7_
       have p112 : 0 ≤ (x7_1 : Int) := of_decide_eq_true (by assumption)
       have q112 : x7_1 < (l1.length : Int) := of_decide_eq_true (by assumption)
       obtain ⟨ad112, A112_0, c112_0, e112, hx112_0, hl112_0, hi112_0⟩ := at_L1 (Kd.V_reads' HO_1.out).2.2 x7_1 p112 q112
       obtain rfl : ad110 = ad112 := (by injection e112)
       obtain ⟨ce112, hce112, hMe112, hcc112⟩ := Kd.V_get HO_1.out [] x7_1 p112 (by first | exact q112 | exact of_decide_eq_true (by assumption) | (have e_ := (Kd.V_reads' HO_1.out).1;omega))
       obtain ⟨ua112_0, uc112_0, rfl, ul112_0, ge112_0⟩ := Kd.FK_slice_open hMe112
       have hv112_0 := hcc112 0 _ rfl
       rw [Nat.add_zero, show ((Kd.slice 3 (Kd.int .i64))).sz = 1 from rfl, Nat.mul_one] at hv112_0
       replace hv112_0 := Option.some.inj (hv112_0.symm.trans hx112_0)
       injection hv112_0 with hva_ hvn_ hvc_
       rw [hva_] at ge112_0
       rw [hvc_] at ul112_0
       have HL112_0 := Aside0.mk (show Kd.V (Kd.int .i64) 3 _ w.heap.size _ _ (rd_L1 l1 x7_1) from Kd.V_mk ul112_0 ge112_0)
       clear hva_ hvn_ hvc_ ge112_0 ul112_0
       clear hcc112 hce112
       have HR112_0 := Aside0.mk hi112_0
       have HC112_0 := Aside0.mk hl112_0
       clear hi112_0 hl112_0
       replace p112 := eq_true p112
       replace q112 := eq_true q112
       refine start_ (n := 10) (S := fun w' => w'.cell? ⟨gb103, 0, none⟩ = some (.int .i64 a0) ∧ w'.cell? ⟨gb103, 1, none⟩ = some (u104001) ∧ w'.cell? (ad110.add (x7_1).toNat) = some (.slice A112_0 (rd_L1 l1 x7_1).length c112_0)) (ds := [7, 9]) #[false, false, false, false, false, false, false, false, false, false] (by kernel_rfl) rfl rfl ⟨(blk_cell BK103.out 0).trans rfl, (blk_cell BK103.out 1).trans rfl, hx112_0⟩ (fun hHeld => ?_);refine with_tabW galoisref23_Greedy.tab7 galoisref23_Greedy.bits7 (fun HT_ HW_ => ?_)
       generalize wr.drew = w20 at HO_1 HO_6 HO_104001 HL110_0 BK102 BK103 HR110_0 HB HL112_0 HR112_0 hx112_0 hHeld ⊢
       refine pure_ (i := 0) (N := some 26) (v := ?_) (a' := ?_) #[true, false, false, false, false, false, false, false, false, false] rfl rfl (any_of HT_.out (by kernel_rfl)) (fun _ _ _ h => h) (Or.inl ⟨by rfl, ?_⟩) ?_ ?_
       rotate_left
       ·intro w'
        go_simp
        with_reducible rfl
       rotate_left
       ·simp only [Act.put, List.setIfInBounds_toArray, List.set_cons_zero, List.set_cons_succ, i64_w, i32_w]
        rfl
       refine pure_ (i := 2) (N := some 28) (v := ?_) (a' := ?_) #[true, false, true, false, false, false, false, false, false, false] rfl rfl (any_of HT_.out (by kernel_rfl)) (fun _ _ _ h => h) (Or.inl ⟨by rfl, ?_⟩) ?_ ?_
       rotate_left
       ·intro w'
        go_simp
        with_reducible rfl
       rotate_left
       ·simp only [Act.put, List.setIfInBounds_toArray, List.set_cons_zero, List.set_cons_succ, i64_w, i32_w]
        rfl
       refine pure_ (i := 3) (N := some 29) (v := ?_) (a' := ?_) #[true, false, true, true, false, false, false, false, false, false] rfl rfl (any_of HT_.out (by kernel_rfl)) (fun _ _ _ h => h) (Or.inl ⟨by rfl, ?_⟩) ?_ ?_
       rotate_left
       ·intro w'
        go_simp
        with_reducible rfl
       rotate_left
       ·simp only [Act.put, List.setIfInBounds_toArray, List.set_cons_zero, List.set_cons_succ, i64_w, i32_w]
        rfl
       refine pure_ (i := 4) (N := some 30) (v := ?_) (a' := ?_) #[true, false, true, true, true, false, false, false, false, false] rfl rfl (any_of HT_.out (by kernel_rfl)) (fun _ _ _ h => h) (Or.inl ⟨by rfl, ?_⟩) ?_ ?_
       rotate_left
       ·intro w'
        go_simp
        with_reducible rfl
       rotate_left
       ·simp only [Act.put, List.setIfInBounds_toArray, List.set_cons_zero, List.set_cons_succ, i64_w, i32_w]
        rfl
       refine take_ (i := 1) (N := some 27) (v := ?_) (a' := ?_) #[true, true, true, true, true, false, false, false, false, false] rfl rfl (take_ofW HT_.out HW_.out (by kernel_rfl)) (fun _ _ _ h => h) (Or.inl ⟨by rfl, ?_⟩) hHeld ?_ ?_
       rotate_left
       ·rintro w' ⟨s0, s1, s2⟩
        go_simp
        with_reducible rfl
       rotate_left
       ·simp only [Act.put, List.setIfInBounds_toArray, List.set_cons_zero, List.set_cons_succ, i64_w, i32_w]
        rfl
       refine take_ (i := 5) (N := some 31) (v := ?_) (a' := ?_) #[true, true, true, true, true, true, false, false, false, false] rfl rfl (take_ofW HT_.out HW_.out (by kernel_rfl)) (fun _ _ _ h => h) (Or.inl ⟨by rfl, ?_⟩) hHeld ?_ ?_
       rotate_left
       ·rintro w' ⟨s0, s1, s2⟩
        go_simp
        with_reducible rfl
       rotate_left
       ·simp only [Act.put, List.setIfInBounds_toArray, List.set_cons_zero, List.set_cons_succ, i64_w, i32_w]
        rfl
       refine one_ (i := 6) (N := some 32) #[true, true, true, true, true, true, true, false, false, false] rfl rfl (one_of HT_.out (by kernel_rfl)) (by decide) (fun K hK => ?_)
       refine value_ (w1 := ?_) (v := ?_) (by rfl) rfl ?_ ?_
       rotate_left 2
       ·go_simp
        constructor
        ·rfl
        ·rfl
       refine hK.out _ _ ⟨(blk_cell (blk_alloc BK103.out _) 0).trans rfl, (blk_cell (blk_alloc BK103.out _) 1).trans rfl, (World.cell?_alloc_lt _ _ _ (World.block_lt_of_cell? _ _ (hHeld.2.2))).trans (hHeld.2.2)⟩ (fun hHeld => ?_)
       clear hK K
       refine norm_ (a' := ?_) ?_ ?_
       rotate_left
       ·show Act.put _ (some 32) _ = _
        simp only [Act.put, List.setIfInBounds_toArray, List.set_cons_zero, List.set_cons_succ, i64_w, i32_w]
        rfl
       refine last_ (i := 7) (N := some 33) #[true, true, true, true, true, true, true, true, false, false] rfl rfl (one_of HT_.out (by kernel_rfl)) (by decide) (fun K hK => ?_)
       refine Kd.N_append_step (Kd.slice 3 (Kd.int .i64)) (w0 := w) w.heap.size (by rfl) (.tmp 27) (.tmp 32) 35 49 (.slice none 0 0) 24 rfl Try.underlying35 info49 rfl (by decide) (by omega) u104001 x104001_1 (rd_L1 l1 x7_1) [.slice A112_0 (rd_L1 l1 x7_1).length c112_0] (fun k_ => (P1_ k_ ∨ w.heap.size ≤ k_) ∧ some k_ ≠ (.slice Ao19 x6_1.length co19 : Value).ownBlock ∧ k_ ≠ gb102 ∧ k_ ≠ gb103) (fun k_ => ((fun k_ => (P1_ k_ ∨ w.heap.size ≤ k_) ∧ some k_ ≠ (.slice Ao19 x6_1.length co19 : Value).ownBlock ∧ k_ ≠ gb102 ∧ k_ ≠ gb103)) k_ ∧ some k_ ≠ (u104001 : Value).ownBlock) rfl rfl ?aP (fun _ hk => hk) ?aF ?aO ?aB ?aS ?aL ?_
       (case aP => first | exact (Kd.FK_slice_mk (Kd.V_reads' (Kd.V_mono (ok' := (fun k_ => ((fun k_ => (P1_ k_ ∨ w.heap.size ≤ k_) ∧ some k_ ≠ (.slice Ao19 x6_1.length co19 : Value).ownBlock ∧ k_ ≠ gb102 ∧ k_ ≠ gb103)) k_ ∧ some k_ ≠ (u104001 : Value).ownBlock)) (HL112_0.out) (fun k_ hk => by first | exact ⟨⟨hk.1, ⟨hk.2.1, ⟨hk.2.2.2.1, hk.2.2.2.2⟩⟩⟩, hk.2.2.1⟩ | exact ⟨⟨hk.1, ⟨hk.2.2.1, ⟨hk.2.2.2.1, hk.2.2.2.2⟩⟩⟩, hk.2.1⟩))).2.1 (Kd.V_F (Kd.V_mono (ok' := (fun k_ => ((fun k_ => (P1_ k_ ∨ w.heap.size ≤ k_) ∧ some k_ ≠ (.slice Ao19 x6_1.length co19 : Value).ownBlock ∧ k_ ≠ gb102 ∧ k_ ≠ gb103)) k_ ∧ some k_ ≠ (u104001 : Value).ownBlock)) (HL112_0.out) (fun k_ hk => by first | exact ⟨⟨hk.1, ⟨hk.2.1, ⟨hk.2.2.2.1, hk.2.2.2.2⟩⟩⟩, hk.2.2.1⟩ | exact ⟨⟨hk.1, ⟨hk.2.2.1, ⟨hk.2.2.2.1, hk.2.2.2.2⟩⟩⟩, hk.2.1⟩)))) | (refine Kd.FK_slice_mk (Kd.V_reads' HL112_0.out).2.1 ?_;(with_reducible repeat (first|apply Kd.F_alloc | apply Kd.F_drewN | apply Kd.F_drew));exact (Kd.V_F (Kd.V_mono (ok' := (fun k_ => ((fun k_ => (P1_ k_ ∨ w.heap.size ≤ k_) ∧ some k_ ≠ (.slice Ao19 x6_1.length co19 : Value).ownBlock ∧ k_ ≠ gb102 ∧ k_ ≠ gb103)) k_ ∧ some k_ ≠ (u104001 : Value).ownBlock)) (HL112_0.out) (fun k_ hk => by first | exact ⟨⟨hk.1, ⟨hk.2.1, ⟨hk.2.2.2.1, hk.2.2.2.2⟩⟩⟩, hk.2.2.1⟩ | exact ⟨⟨hk.1, ⟨hk.2.2.1, ⟨hk.2.2.2.1, hk.2.2.2.2⟩⟩⟩, hk.2.1⟩)))))
       (case aB => exact (by repeat (first|(with_reducible first | exact HB.out | apply below_alloc | apply pw_below_drewN | apply below_drew1 | refine below_set ?_ GE102.out | refine below_set ?_ GE103.out) | exact HB.out)))
       (case aF => exact (fun k_ hk => ⟨(.inr (Nat.le_trans (below_size (by repeat (first|(with_reducible first | exact HB.out | apply below_alloc | apply pw_below_drewN | apply below_drew1 | refine below_set ?_ GE102.out | refine below_set ?_ GE103.out) | exact HB.out))) hk)), Kd.fresh' (Kd.N_lt (Nst HO_6.out)) k_ hk, Kd.freshB (g := gb102) (o := .cells #[.int .i64 0, .slice none 0 0] 37 (0, 0)) (blkst BK102.out) k_ hk, Kd.freshB (g := gb103) (o := .cells #[.int .i64 a0, u104001] 37 (0, 0)) (blkst BK103.out) k_ hk⟩))
       (case aO => exact (Nst HO_104001.out))
       (case aS => exact (below_size (by repeat (first|(with_reducible first | exact HB.out | apply below_alloc | apply pw_below_drewN | apply below_drew1 | refine below_set ?_ GE102.out | refine below_set ?_ GE103.out) | exact HB.out))))
       (case aL => have := LMc17.out;omega)
       intro v114 w21 ho hb hg hat
       rw [← Ny113.out] at ho
       have n0_ := Aside0.mk (Kd.V_afterv (ok := (fun k_ => (P1_ k_ ∨ w.heap.size ≤ k_) ∧ some k_ ≠ (.slice Ao19 x6_1.length co19 : Value).ownBlock ∧ k_ ≠ gb102 ∧ k_ ≠ gb103)) (by (with_reducible repeat (first|apply Kd.V_alloc | apply Kd.V_drewN | apply Kd.V_drew));exact Kd.V_mono HO_1.out (fun _ hk => by first | exact ⟨⟨hk.1, ⟨hk.2.1, ⟨hk.2.2.2.1, hk.2.2.2.2⟩⟩⟩, hk.2.2.1⟩ | exact ⟨⟨hk.1, ⟨hk.2.2.1, ⟨hk.2.2.2.1, hk.2.2.2.2⟩⟩⟩, hk.2.1⟩)) hg hat)
       have n1_ := Aside0.mk (Kd.N_afterv (ok := (fun k_ => (P1_ k_ ∨ w.heap.size ≤ k_) ∧ k_ ≠ gb102 ∧ k_ ≠ gb103)) (by (with_reducible repeat (first|apply Kd.N_alloc | apply Kd.N_drewN | apply Kd.N_drew));exact Kd.N_mono HO_6.out (fun _ hk => ⟨⟨hk.1, ⟨hk.2.2.1, hk.2.2.2⟩⟩, hk.2.1⟩)) hg hat)
       have n2_ := Aside0.mk (blk_grown (g := gb102) (o := .cells #[.int .i64 0, .slice none 0 0] 37 (0, 0)) (blkst BK102.out) hg (Kd.N_ne HO_104001.out BK102.out (by decide)))
       have n3_ := Aside0.mk (blk_grown (g := gb103) (o := .cells #[.int .i64 a0, u104001] 37 (0, 0)) (blkst BK103.out) hg (Kd.N_ne HO_104001.out BK103.out (by decide)))
       have n4_ := Aside0.mk (Kd.V_afterv (ok := (fun k_ => (P1_ k_ ∨ w.heap.size ≤ k_) ∧ some k_ ≠ (.slice Ao19 x6_1.length co19 : Value).ownBlock ∧ k_ ≠ gb102 ∧ k_ ≠ gb103)) (by (with_reducible repeat (first|apply Kd.V_alloc | apply Kd.V_drewN | apply Kd.V_drew));exact Kd.V_mono HL110_0.out (fun _ hk => by first | exact ⟨⟨hk.1, ⟨hk.2.1, ⟨hk.2.2.2.1, hk.2.2.2.2⟩⟩⟩, hk.2.2.1⟩ | exact ⟨⟨hk.1, ⟨hk.2.2.1, ⟨hk.2.2.2.1, hk.2.2.2.2⟩⟩⟩, hk.2.1⟩)) hg hat)
       have n5_ := Aside0.mk (Kd.V_afterv (ok := (fun k_ => (P1_ k_ ∨ w.heap.size ≤ k_) ∧ some k_ ≠ (.slice Ao19 x6_1.length co19 : Value).ownBlock ∧ k_ ≠ gb102 ∧ k_ ≠ gb103)) (by (with_reducible repeat (first|apply Kd.V_alloc | apply Kd.V_drewN | apply Kd.V_drew));exact Kd.V_mono HL112_0.out (fun _ hk => by first | exact ⟨⟨hk.1, ⟨hk.2.1, ⟨hk.2.2.2.1, hk.2.2.2.2⟩⟩⟩, hk.2.2.1⟩ | exact ⟨⟨hk.1, ⟨hk.2.2.1, ⟨hk.2.2.2.1, hk.2.2.2.2⟩⟩⟩, hk.2.1⟩)) hg hat)
       have n6_ := Aside0.mk (hb)
       have n7_ := Aside0.mk (ho)
       clear HO_1
       clear HO_6
       clear BK102
       clear BK103
       clear HL110_0
       clear HL112_0
       clear HB
       clear HO_104001
       have HO_1 := n0_
       have HO_6 := n1_
       have BK102 := n2_
       have BK103 := n3_
       have HL110_0 := n4_
       have HL112_0 := n5_
       have HB := n6_
       have HO115 := n7_
       clear n0_ n1_ n2_ n3_ n4_ n5_ n6_ n7_
       clear ho hb hg hat
       obtain ⟨Ao22, co22, eo22⟩ := Kd.N_slice HO115.out
       (first|subst eo22 | (injection eo22 with f1_ f2_ f3_;have f4_ := f1_.symm;have f5_ := f3_.symm;clear f1_ f2_ f3_;subst f4_;subst f5_))
       refine hK.out _ _ ?_
       clear hK K
       refine norm_ (a' := ?_) ?_ ?_
       rotate_left
       ·show Act.put _ (some 33) _ = _
        simp only [Act.put, List.setIfInBounds_toArray, List.set_cons_zero, List.set_cons_succ, i64_w, i32_w]
        rfl
       refine pure_ (i := 8) (N := some 34) (v := ?_) (a' := ?_) #[true, true, true, true, true, true, true, true, true, false] rfl rfl (any_of HT_.out (by kernel_rfl)) (fun _ _ _ h => h) (Or.inl ⟨by rfl, ?_⟩) ?_ ?_
       rotate_left
       ·intro w'
        go_simp
        with_reducible rfl
       rotate_left
       ·simp only [Act.put, List.setIfInBounds_toArray, List.set_cons_zero, List.set_cons_succ, i64_w, i32_w]
        rfl
       refine last_ (i := 9) (N := none) #[true, true, true, true, true, true, true, true, true, true] rfl rfl (one_of HT_.out (by kernel_rfl)) (by decide) (fun K hK => ?_)
       have hs23 : w21.cell? ⟨gb103, 1, none⟩ = some (u104001) := (blk_cell BK103.out 1).trans rfl
       have hfs23 := blk_frozen BK103.out 1
       have hns23_0 := NB102_103.out
       have hms23_0 := NB103_102.out
       refine skip_ (w1 := ?_) (by rfl) rfl ?_ ?_
       rotate_left
       ·go_simp
        rfl
       refine hK.out _ _ ?_
       clear hK K
       refine done_ (done_of HT_.out (by kernel_rfl)) ?_
       have hnb24 := NB103_102.out
       have hnc24 := NB102_103.out
       have hcz25_0 : w21.cell? ⟨gb103, 0, none⟩ = some (.int .i64 a0) := (blk_cell BK103.out 0).trans rfl
       have hcz25_1 : w21.cell? ⟨gb103, 1, none⟩ = some (u104001) := (blk_cell BK103.out 1).trans rfl
       have hfz25_0 := blk_frozen BK103.out 0
       have hfz25_1 := blk_frozen BK103.out 1
       try go_wp2_with (first|((with_reducible refine gate_callee (f := 92) rfl ?_);refine goesL_ (some 39) rfl rfl Try.func92 (by kernel_rfl) rfl #[.int .i64 a0, .slice Ao22 y113.length co22] rfl (by (try simp only [List.map_toArray, List.map_cons, List.map_nil]);first | done | rfl | (simp only [List.length_drop, List.length_take];rfl)) ?_;(with_reducible refine (galoisref23_Close.calls k1 a0 _ _ y113 t116 t117 _ ?side1 ?side2 A18.out).mono ?_);(case side1 => refine (Kd.N_reads' (e := 49) (base := w.heap.size) (ok := fun k_ => ((P1_ k_ ∨ w.heap.size ≤ k_) ∧ (some k_ ≠ (.slice Ao19 x6_1.length co19 : Value).ownBlock ∧ (k_ ≠ gb102 ∧ k_ ≠ gb103)))) (n := y113.length) (c := co22) ?_).2.2;exact (by (with_reducible repeat (first|apply Kd.N_alloc | apply Kd.N_drewN | apply Kd.N_drew));exact (Kd.N_mono (Kd.N_far (p := ⟨gb103, 1, none⟩) (Kd.N_mono HO115.out (fun k_ hk => (⟨hk, hk.2.2.2⟩ : _ ∧ k_ ≠ gb103))) (fun _ hk => hk.2) (.slice Ao22 y113.length co22)) (fun _ h_ => h_.1))));(case side2 => exact (Kd.N_reads' HO115.out).2.1);rintro e w26 ⟨v118, rfl, ho0, hb⟩;refine ⟨_, rfl, ?_⟩;have n0_ := Aside0.mk (Kd.V_elder' (by (with_reducible repeat (first|apply Kd.V_alloc | apply Kd.V_drewN | apply Kd.V_drew));exact (Kd.V_mono (Kd.V_far (p := ⟨gb103, 1, none⟩) (Kd.V_mono HO_1.out (fun k_ hk => (⟨hk, hk.1.2.2.2⟩ : _ ∧ k_ ≠ gb103))) (fun _ hk => hk.2) (.slice Ao22 y113.length co22)) (fun _ h_ => h_.1))) (by first | exact Kd.N_base ho0 | exact Kd.S_base ho0 | exact Kd.R_base ho0) hb);have n1_ := Aside0.mk (Kd.N_elder' (by (with_reducible repeat (first|apply Kd.N_alloc | apply Kd.N_drewN | apply Kd.N_drew));exact (Kd.N_mono (Kd.N_far (p := ⟨gb103, 1, none⟩) (Kd.N_mono HO_6.out (fun k_ hk => (⟨hk, hk.1.2.2⟩ : _ ∧ k_ ≠ gb103))) (fun _ hk => hk.2) (.slice Ao22 y113.length co22)) (fun _ h_ => h_.1))) (by first | exact Kd.N_base ho0 | exact Kd.S_base ho0 | exact Kd.R_base ho0) hb);have n2_ := Aside0.mk (Kd.V_elder' (by (with_reducible repeat (first|apply Kd.V_alloc | apply Kd.V_drewN | apply Kd.V_drew));exact (Kd.V_mono (Kd.V_far (p := ⟨gb103, 1, none⟩) (Kd.V_mono HL110_0.out (fun k_ hk => (⟨hk, hk.1.2.2.2⟩ : _ ∧ k_ ≠ gb103))) (fun _ hk => hk.2) (.slice Ao22 y113.length co22)) (fun _ h_ => h_.1))) (by first | exact Kd.N_base ho0 | exact Kd.S_base ho0 | exact Kd.R_base ho0) hb);have n3_ := Aside0.mk (Kd.V_elder' (by (with_reducible repeat (first|apply Kd.V_alloc | apply Kd.V_drewN | apply Kd.V_drew));exact (Kd.V_mono (Kd.V_far (p := ⟨gb103, 1, none⟩) (Kd.V_mono HL112_0.out (fun k_ hk => (⟨hk, hk.1.2.2.2⟩ : _ ∧ k_ ≠ gb103))) (fun _ hk => hk.2) (.slice Ao22 y113.length co22)) (fun _ h_ => h_.1))) (by first | exact Kd.N_base ho0 | exact Kd.S_base ho0 | exact Kd.R_base ho0) hb);have n4_ := Aside0.mk (Kd.N_elder' (by (with_reducible repeat (first|apply Kd.N_alloc | apply Kd.N_drewN | apply Kd.N_drew));exact (Kd.N_mono (Kd.N_far (p := ⟨gb103, 1, none⟩) (Kd.N_mono HO115.out (fun k_ hk => (⟨hk, hk.2.2.2⟩ : _ ∧ k_ ≠ gb103))) (fun _ hk => hk.2) (.slice Ao22 y113.length co22)) (fun _ h_ => h_.1))) (by first | exact Kd.N_base ho0 | exact Kd.S_base ho0 | exact Kd.R_base ho0) hb);have n5_ := Aside0.mk (Kd.N_lower (Kd.N_mono (ok' := fun k_ => (P1_ k_ ∨ w.heap.size ≤ k_) ∧ some k_ ≠ (.slice Ao19 x6_1.length co19 : Value).ownBlock ∧ some k_ ≠ (.slice Ao22 y113.length co22 : Value).ownBlock ∧ k_ ≠ gb102 ∧ k_ ≠ gb103) (Kd.S_N (Kd.S_bound ho0)) (fun k_ hk_ => ⟨(.inr (Nat.le_trans (below_size (by repeat (first|(with_reducible first | exact HB.out | apply below_alloc | apply pw_below_drewN | apply below_drew1 | refine below_set ?_ GE102.out | refine below_set ?_ GE103.out) | exact HB.out))) hk_.2.1)), (Kd.fresh' (Kd.N_lt (by (with_reducible repeat (first|apply Kd.N_alloc | apply Kd.N_drewN | apply Kd.N_drew));exact (Kd.N_mono (Kd.N_far (p := ⟨gb103, 1, none⟩) (Kd.N_mono HO_6.out (fun k_ hk => (⟨hk, hk.1.2.2⟩ : _ ∧ k_ ≠ gb103))) (fun _ hk => hk.2) (.slice Ao22 y113.length co22)) (fun _ h_ => h_.1)))) k_ hk_.2.1), (Kd.fresh' (Kd.N_lt (by (with_reducible repeat (first|apply Kd.N_alloc | apply Kd.N_drewN | apply Kd.N_drew));exact (Kd.N_mono (Kd.N_far (p := ⟨gb103, 1, none⟩) (Kd.N_mono HO115.out (fun k_ hk => (⟨hk, hk.2.2.2⟩ : _ ∧ k_ ≠ gb103))) (fun _ hk => hk.2) (.slice Ao22 y113.length co22)) (fun _ h_ => h_.1)))) k_ hk_.2.1), (Kd.freshB (g := gb102) (o := .cells #[.int .i64 0, .slice none 0 0] 37 (0, 0)) (by (with_reducible repeat (first|refine blk_drewN ?_ _ | refine blk_drew ?_ | refine blk_alloc ?_ _));refine blk_far ?_ NB102_103.out _;(with_reducible repeat (first|refine blk_drewN ?_ _ | refine blk_drew ?_ | refine blk_alloc ?_ _));exact BK102.out) k_ hk_.2.1), (Kd.freshB (g := gb103) (o := .cells #[.int .i64 a0, .slice Ao22 y113.length co22] 37 (0, 0)) (by (with_reducible repeat (first|refine blk_drewN ?_ _ | refine blk_drew ?_ | refine blk_alloc ?_ _));refine blk_put (cs := #[.int .i64 a0, u104001]) ?_ 1 _ rfl;(with_reducible repeat (first|refine blk_drewN ?_ _ | refine blk_drew ?_ | refine blk_alloc ?_ _));exact BK103.out) k_ hk_.2.1)⟩)) (below_size (by repeat (first|(with_reducible first | exact HB.out | apply below_alloc | apply pw_below_drewN | apply below_drew1 | refine below_set ?_ GE102.out | refine below_set ?_ GE103.out) | exact HB.out))));have n6_ := Aside0.mk (blk_below (g := gb102) (o := .cells #[.int .i64 0, .slice none 0 0] 37 (0, 0)) (by (with_reducible repeat (first|refine blk_drewN ?_ _ | refine blk_drew ?_ | refine blk_alloc ?_ _));refine blk_far ?_ NB102_103.out _;(with_reducible repeat (first|refine blk_drewN ?_ _ | refine blk_drew ?_ | refine blk_alloc ?_ _));exact BK102.out) hb);have n7_ := Aside0.mk (blk_below (g := gb103) (o := .cells #[.int .i64 a0, .slice Ao22 y113.length co22] 37 (0, 0)) (by (with_reducible repeat (first|refine blk_drewN ?_ _ | refine blk_drew ?_ | refine blk_alloc ?_ _));refine blk_put (cs := #[.int .i64 a0, u104001]) ?_ 1 _ rfl;(with_reducible repeat (first|refine blk_drewN ?_ _ | refine blk_drew ?_ | refine blk_alloc ?_ _));exact BK103.out) hb);have n8_ := Aside0.mk (below_step (by repeat (first|(with_reducible first | exact HB.out | apply below_alloc | apply pw_below_drewN | apply below_drew1 | refine below_set ?_ GE102.out | refine below_set ?_ GE103.out) | exact HB.out)) hb);clear HO_1;clear HO_6;clear HL110_0;clear HL112_0;clear HO115;clear BK102;clear BK103;clear HB;have HO_1 := n0_;have HO_6 := n1_;have HL110_0 := n2_;have HL112_0 := n3_;have HO115 := n4_;have HO119 := n5_;have BK102 := n6_;have BK103 := n7_;have HB := n8_;clear n0_ n1_ n2_ n3_ n4_ n5_ n6_ n7_ n8_;(try clear hb);(try clear hb2);(try clear hk);(try clear hi);(try clear ho0)))
       go_roundg k1
       case measure => have := HK1.out;omega
       case rel => exact ⟨(t116), (wrap64 (x7_1 + 1)), (y113), (.slice Ao22 y113.length co22), (by first | rfl | (simp;done) | (simp [*];done)), H', ⟨by have := HK1.out;omega⟩, ⟨by (with_reducible repeat (first|apply Kd.V_alloc | apply Kd.V_drewN | apply Kd.V_drew));exact Kd.V_mono HO_1.out (fun _ hk => ⟨hk.1.1.1, ⟨hk.2, ⟨hk.1.2, ⟨hk.1.1.2.2.1, hk.1.1.2.2.2⟩⟩⟩⟩)⟩, ⟨by (with_reducible repeat (first|apply Kd.N_alloc | apply Kd.N_drewN | apply Kd.N_drew));exact Kd.N_mono HO119.out (fun _ hk => ⟨hk.1, ⟨hk.2.2.1, ⟨hk.2.2.2.1, hk.2.2.2.2⟩⟩⟩)⟩, ⟨by (with_reducible repeat (first|apply Kd.N_alloc | apply Kd.N_drewN | apply Kd.N_drew));exact Kd.N_mono HO115.out (fun _ hk => ⟨hk.1.1, ⟨hk.2, ⟨hk.1.2.2.1, hk.1.2.2.2⟩⟩⟩)⟩, ⟨blkst BK102.out⟩, ⟨blkst BK103.out⟩, ⟨by repeat (first|(with_reducible first | exact HB.out | apply below_alloc | apply pw_below_drewN | apply below_drew1 | refine below_set ?_ GE102.out | refine below_set ?_ GE103.out) | exact HB.out)⟩⟩
      ·rw [if_neg c17] at H
       exact absurd H (by simp)
    ·rw [if_neg c13] at H
     exact absurd H (by simp)
   ·rw [if_neg c12] at H
    have c12b0 : decide (x7_1 < (l1.length : Int)) = false := decide_eq_false c12
    clear c12
    simp only [Option.some.injEq, Prod.mk.injEq] at H
    obtain ⟨rfl, rfl⟩ := H
    have hnb27 := NB103_102.out
    have hnc27 := NB102_103.out
    have hcz28_0 : wr.cell? ⟨gb103, 0, none⟩ = some (.int .i64 a0) := (blk_cell BK103.out 0).trans rfl
    have hcz28_1 : wr.cell? ⟨gb103, 1, none⟩ = some (u104001) := (blk_cell BK103.out 1).trans rfl
    have hfz28_0 := blk_frozen BK103.out 0
    have hfz28_1 := blk_frozen BK103.out 1
    have hcz29_0 : wr.cell? ⟨gb102, 0, none⟩ = some (.int .i64 0) := (blk_cell BK102.out 0).trans rfl
    have hcz29_1 : wr.cell? ⟨gb102, 1, none⟩ = some (.slice none 0 0) := (blk_cell BK102.out 1).trans rfl
    have hfz29_0 := blk_frozen BK102.out 0
    have hfz29_1 := blk_frozen BK102.out 1
    obtain ⟨Ao30, co30, eo30⟩ := Kd.N_slice HO_104001.out
    subst eo30
    go_wp2
    refine bodyPost_ret (results_cell_row rfl _ _ gb102 37 #[.int .i64 a0, .slice Ao30 x104001_1.length co30] (0, 0) _ rfl (by (with_reducible repeat (first|refine blk_drewN ?_ _ | refine blk_drew ?_ | refine blk_alloc ?_ _));refine blk_put (cs := #[.int .i64 a0, .slice none 0 0]) ?_ 1 _ rfl;(with_reducible repeat (first|refine blk_drewN ?_ _ | refine blk_drew ?_ | refine blk_alloc ?_ _));refine blk_put (cs := #[.int .i64 0, .slice none 0 0]) ?_ 0 _ rfl;(with_reducible repeat (first|refine blk_drewN ?_ _ | refine blk_drew ?_ | refine blk_alloc ?_ _));exact BK102.out) Try.underlying37 rfl (by kernel_rfl)) rfl ?_
    exact ⟨_, by first | rfl | (simp [errW_none, errW_some] <;> rfl) | (simp [*, errW_none, errW_some] <;> rfl), by (with_reducible repeat (first|apply Kd.N_alloc | apply Kd.N_drewN | apply Kd.N_drew));exact Kd.N_mono (Kd.N_far (p := ⟨gb102, 1, none⟩) (Kd.N_far (p := ⟨gb102, 0, none⟩) (Kd.N_mono HO_104001.out (fun k_ hk => (⟨hk, hk.2.2.1⟩ : _ ∧ k_ ≠ gb102))) (fun _ hk => hk.2) (.int .i64 a0)) (fun _ hk => hk.2) (.slice Ao30 x104001_1.length co30)) (fun _ hk => hk.1.1), by repeat (first|(with_reducible first | exact HB.out | apply below_alloc | apply pw_below_drewN | apply below_drew1 | refine below_set ?_ GE102.out | refine below_set ?_ GE103.out) | exact HB.out)⟩
end Go.Proofs.Ytmbldnoepjmhhaa.PGr
