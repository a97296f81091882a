/- Texts of this claim put together (wip/tools/merge.py). -/
import Derived.Test.YtmbldnoepjmhhaaGreatZPermgroupStabilizersMg6
import Derived.Test.YtmbldnoepjmhhaaGreatZPermgroupStabilizersPGrx0
import Derived.Test.YtmbldnoepjmhhaaGreatZPermgroupStabilizersPGrx1
import Derived.Test.YtmbldnoepjmhhaaGreatZPermgroupStabilizersBsSet
import Derived.Test.YtmbldnoepjmhhaaGreatZPermgroupStabilizersMg4
import Derived.Deep.RegionHeld3
import Derived.Test.YtmbldnoepjmhhaaGreatZPermgroupStabilizersMg5
set_option linter.unusedVariables false
set_option linter.unusedSimpArgs false
section
/- The walk of PermgroupStabilizers, by values. -/
namespace Go.Proofs.YtmbldnoepjmhhaaGreat.Bs
open Go.RowKit Go.Proofs.YtmbldnoepjmhhaaGreatW.PrintWords Go.Proofs.YtmbldnoepjmhhaaGreatW.PrintLast Go.Proofs.YtmbldnoepjmhhaaGreatW.PrintMore Go.Proofs.YtmbldnoepjmhhaaGreat.Plain Go.Proofs.YtmbldnoepjmhhaaGreat.PBs Go.Proofs.YtmbldnoepjmhhaaGreat.PAll
theorem C_V {α : Type} {d : Kd α} (hd : Kd.Heap d) {e base c : Nat} {w : World} {A : Option Addr} {xs : List α} (h : Kd.C d w A xs.length xs) (hc : xs.length ≤ c) : Kd.V d e w base (fun k => k < w.heap.size) (.slice A xs.length c) xs := Kd.V_mk hc (Kd.C_F hd h)
theorem heapP : Kd.Heap (Kd.slice 3 (Kd.int .i64)) := Kd.heap_slice 3 (Kd.heap_int .i64)
theorem fixing_C (k : Nat) (A0 : Option Addr) (c0 : Nat) (l0 : List (List Int)) (A1 : Option Addr) (c1 : Nat) (l1 : List Int) (r : List (List Int)) (w : World) (h0 : Kd.C (Kd.slice 3 (Kd.int .i64)) w A0 l0.length l0) (hc0 : l0.length ≤ c0) (hr1 : Kd.C (Kd.int .i64) w A1 l1.length l1) (hc1 : l1.length ≤ c1) (h : PRf.galoisref23_Fixing.f k l0 l1 = some r) :
    Calls Tryz.prog 26 #[.slice A0 l0.length c0, .slice A1 l1.length c1] w fun e w' => ∃ A c, e = .returned (.slice A r.length c) ∧ r.length ≤ c ∧ Kd.C (Kd.slice 3 (Kd.int .i64)) w' A r.length r ∧ Below w.heap.size w w' := by
  refine (PRf.galoisref23_Fixing.calls k _ A0 c0 l0 A1 c1 l1 r w (C_V heapP h0 hc0) hr1 hc1 h).mono ?_
  rintro e w' ⟨v, rfl, hn, hb⟩
  have hv := Kd.N_V (base' := 0) hn
  obtain ⟨A, c, rfl⟩ := Kd.V_slice hv
  exact ⟨A, c, rfl, (Kd.V_reads' hv).2.1, (Kd.V_reads' hv).2.2, hb⟩
theorem keeping_C (k : Nat) (A0 : Option Addr) (c0 : Nat) (l0 : List (List Int)) (A1 : Option Addr) (c1 : Nat) (l1 : List Int) (r : List (List Int)) (w : World) (h0 : Kd.C (Kd.slice 3 (Kd.int .i64)) w A0 l0.length l0) (hc0 : l0.length ≤ c0) (hr1 : Kd.C (Kd.int .i64) w A1 l1.length l1) (hc1 : l1.length ≤ c1) (h : PRf.galoisref23_Keeping.f k l0 l1 = some r) :
    Calls Tryz.prog 27 #[.slice A0 l0.length c0, .slice A1 l1.length c1] w fun e w' => ∃ A c, e = .returned (.slice A r.length c) ∧ r.length ≤ c ∧ Kd.C (Kd.slice 3 (Kd.int .i64)) w' A r.length r ∧ Below w.heap.size w w' := by
  refine (PRf.galoisref23_Keeping.calls k _ A0 c0 l0 A1 c1 l1 r w (C_V heapP h0 hc0) hr1 hc1 h).mono ?_
  rintro e w' ⟨v, rfl, hn, hb⟩
  have hv := Kd.N_V (base' := 0) hn
  obtain ⟨A, c, rfl⟩ := Kd.V_slice hv
  exact ⟨A, c, rfl, (Kd.V_reads' hv).2.1, (Kd.V_reads' hv).2.2, hb⟩
theorem greedy_C (k : Nat) (a : Int) (A0 : Option Addr) (c0 : Nat) (l0 : List (List Int)) (r1 : Int) (r : List (List Int)) (w : World) (h0 : Kd.C (Kd.slice 3 (Kd.int .i64)) w A0 l0.length l0) (hc0 : l0.length ≤ c0) (h : PGr.galoisref23_Greedy.f k a l0 = some (r1, r)) :
    Calls Tryz.prog 14 #[.int .i64 a, .slice A0 l0.length c0] w fun e w' => ∃ A c, e = .returned (.agg #[.int .i64 r1, .slice A r.length c]) ∧ r.length ≤ c ∧ Kd.C (Kd.slice 3 (Kd.int .i64)) w' A r.length r ∧ Below w.heap.size w w' := by
  refine (PGr.galoisref23_Greedy.calls k a _ A0 c0 l0 r1 r w (C_V heapP h0 hc0) h).mono ?_
  rintro e w' ⟨v, rfl, hn, hb⟩
  have hv := Kd.N_V (base' := 0) hn
  obtain ⟨A, c, rfl⟩ := Kd.V_slice hv
  exact ⟨A, c, rfl, (Kd.V_reads' hv).2.1, (Kd.V_reads' hv).2.2, hb⟩
set_option maxHeartbeats 16000000 in
set_option maxRecDepth 100000 in
theorem stabs_large (a : Int) (A0_1 : Option Addr) (c0_1 : Nat) (L : List (List Int)) (A1 : Option Addr) (c1 : Nat) (l1 : List Int) (w : World) (hr0_1 : Kd.C (Kd.slice 3 (Kd.int .i64)) w A0_1 L.length L) (hc0_1 : L.length ≤ c0_1) (hr1 : Kd.C (Kd.int .i64) w A1 l1.length l1) (hc1 : l1.length ≤ c1) (K1 : Nat) (h1 : PPg.galoislaw23_large.f K1 a L = some true) : Calls Tryz.prog 4 #[.agg #[.int .i64 a, .slice A0_1 L.length c0_1], .slice A1 l1.length c1] w fun e w' => e = .returned (.bool true) ∧ Below w.heap.size w w' := by
  have H1 := Aside0.mk h1
  clear h1
  have hu := Tryz.underlying24
  have HB : Aside0 (Below (w.alloc (.cells #[.int .i64 a, .slice A0_1 L.length c0_1] 24)).heap.size (w.alloc (.cells #[.int .i64 a, .slice A0_1 L.length c0_1] 24)) (w.alloc (.cells #[.int .i64 a, .slice A0_1 L.length c0_1] 24))) := ⟨Below.refl _ _⟩
  have HC := Aside0.mk hc0_1
  have HC1 := Aside0.mk hc1
  have HBW : Aside0 (Below w.heap.size w (w.alloc (.cells #[.int .i64 a, .slice A0_1 L.length c0_1] 24))) := ⟨below_alloc (Below.refl _ _) _⟩
  have HG := Aside0.mk (Kd.C_below hr0_1 HBW.out)
  have HP := Aside0.mk (Kd.C_below hr1 HBW.out)
  have hx0 : (w.alloc (.cells #[.int .i64 a, .slice A0_1 L.length c0_1] 24)).cell? ⟨w.heap.size, 0, none⟩ = some (.int .i64 a) := by rw [World.cell?_alloc_at _ _ _ _ rfl]; rfl
  have hx1 : (w.alloc (.cells #[.int .i64 a, .slice A0_1 L.length c0_1] 24)).cell? ⟨w.heap.size, 1, none⟩ = some (.slice A0_1 L.length c0_1) := by rw [World.cell?_alloc_at _ _ _ _ rfl]; rfl
  clear hr0_1 hc0_1 hr1 hc1
  go_enter Tryz.func4, Tryz.ntmps4
  go_wp2_with (first
    | (go_at_call 19; have hq_ : w2 = w2 := rfl; clear hq_; (refine (galoislaw23_awake.calls true _ rfl).mono ?_); rintro e w3 ⟨rfl, hb3⟩; have hw3 := below_step (w := w2) (by repeat (first | (with_reducible first | exact Below.refl _ _ | apply below_alloc | apply pw_below_drewN | apply below_drew1) | exact Below.refl _ _)) hb3; replace HB := Aside0.mk (below_step HB.out hw3); replace HG := Aside0.mk (Kd.C_below HG.out hw3); replace HP := Aside0.mk (Kd.C_below HP.out hw3); replace hx0 := cell_move hx0 (fun hlt => hw3.block _ hlt); replace hx1 := cell_move hx1 (fun hlt => hw3.block _ hlt); clear hb3 hw3)
    | (go_at_call 20; have hq_ : w1 = w1 := rfl; clear hq_; (refine (PPg.galoislaw23_large.calls K1 a A0_1 c0_1 L true _ (Kd.C_below HG.out (by repeat (first | (with_reducible first | exact Below.refl _ _ | apply below_alloc | apply pw_below_drewN | apply below_drew1) | exact Below.refl _ _))) HC.out H1.out).mono ?_); rintro e w2 ⟨rfl, hb2⟩; have hw2 := below_step (w := w1) (by repeat (first | (with_reducible first | exact Below.refl _ _ | apply below_alloc | apply pw_below_drewN | apply below_drew1) | exact Below.refl _ _)) hb2; replace HB := Aside0.mk (below_step HB.out hw2); replace HG := Aside0.mk (Kd.C_below HG.out hw2); replace HP := Aside0.mk (Kd.C_below HP.out hw2); replace hx0 := cell_move hx0 (fun hlt => hw2.block _ hlt); replace hx1 := cell_move hx1 (fun hlt => hw2.block _ hlt); clear hb2 hw2)
    | (go_at_call 19; (refine (galoislaw23_awake.calls true _ rfl).mono ?_); rintro e w1 ⟨rfl, hb1⟩; have hw1 := below_step (w := (w.alloc (.cells #[.int .i64 a, .slice A0_1 L.length c0_1] 24))) (by repeat (first | (with_reducible first | exact Below.refl _ _ | apply below_alloc | apply pw_below_drewN | apply below_drew1) | exact Below.refl _ _)) hb1; replace HB := Aside0.mk (below_step HB.out hw1); replace HG := Aside0.mk (Kd.C_below HG.out hw1); replace HP := Aside0.mk (Kd.C_below HP.out hw1); replace hx0 := cell_move hx0 (fun hlt => hw1.block _ hlt); replace hx1 := cell_move hx1 (fun hlt => hw1.block _ hlt); clear hb1 hw1))
  go_ret
  exact ⟨rfl, below_then (below_alloc (Below.refl _ _) _) (by simp) HB.out⟩
set_option maxHeartbeats 16000000 in
set_option maxRecDepth 100000 in
theorem stabs_long (a : Int) (A0_1 : Option Addr) (c0_1 : Nat) (L : List (List Int)) (A1 : Option Addr) (c1 : Nat) (l1 : List Int) (w : World) (hr0_1 : Kd.C (Kd.slice 3 (Kd.int .i64)) w A0_1 L.length L) (hc0_1 : L.length ≤ c0_1) (hr1 : Kd.C (Kd.int .i64) w A1 l1.length l1) (hc1 : l1.length ≤ c1) (K1 : Nat) (h1 : PPg.galoislaw23_large.f K1 a L = some false) (h2 : 20 < l1.length) : Calls Tryz.prog 4 #[.agg #[.int .i64 a, .slice A0_1 L.length c0_1], .slice A1 l1.length c1] w fun e w' => e = .returned (.bool true) ∧ Below w.heap.size w w' := by
  have H1 := Aside0.mk h1
  have e1 : decide (20 < (l1.length : Int)) = true := decide_eq_true (by omega)
  have e2 : decide (20 < l1.length) = true := decide_eq_true (by omega)
  clear h1 h2
  have hu := Tryz.underlying24
  have HB : Aside0 (Below (w.alloc (.cells #[.int .i64 a, .slice A0_1 L.length c0_1] 24)).heap.size (w.alloc (.cells #[.int .i64 a, .slice A0_1 L.length c0_1] 24)) (w.alloc (.cells #[.int .i64 a, .slice A0_1 L.length c0_1] 24))) := ⟨Below.refl _ _⟩
  have HC := Aside0.mk hc0_1
  have HC1 := Aside0.mk hc1
  have HBW : Aside0 (Below w.heap.size w (w.alloc (.cells #[.int .i64 a, .slice A0_1 L.length c0_1] 24))) := ⟨below_alloc (Below.refl _ _) _⟩
  have HG := Aside0.mk (Kd.C_below hr0_1 HBW.out)
  have HP := Aside0.mk (Kd.C_below hr1 HBW.out)
  have hx0 : (w.alloc (.cells #[.int .i64 a, .slice A0_1 L.length c0_1] 24)).cell? ⟨w.heap.size, 0, none⟩ = some (.int .i64 a) := by rw [World.cell?_alloc_at _ _ _ _ rfl]; rfl
  have hx1 : (w.alloc (.cells #[.int .i64 a, .slice A0_1 L.length c0_1] 24)).cell? ⟨w.heap.size, 1, none⟩ = some (.slice A0_1 L.length c0_1) := by rw [World.cell?_alloc_at _ _ _ _ rfl]; rfl
  clear hr0_1 hc0_1 hr1 hc1
  go_enter Tryz.func4, Tryz.ntmps4
  go_wp2_with (first
    | (go_at_call 19; have hq_ : w2 = w2 := rfl; clear hq_; (refine (galoislaw23_awake.calls true _ rfl).mono ?_); rintro e w3 ⟨rfl, hb3⟩; have hw3 := below_step (w := w2) (by repeat (first | (with_reducible first | exact Below.refl _ _ | apply below_alloc | apply pw_below_drewN | apply below_drew1) | exact Below.refl _ _)) hb3; replace HB := Aside0.mk (below_step HB.out hw3); replace HG := Aside0.mk (Kd.C_below HG.out hw3); replace HP := Aside0.mk (Kd.C_below HP.out hw3); replace hx0 := cell_move hx0 (fun hlt => hw3.block _ hlt); replace hx1 := cell_move hx1 (fun hlt => hw3.block _ hlt); clear hb3 hw3)
    | (go_at_call 20; have hq_ : w1 = w1 := rfl; clear hq_; (refine (PPg.galoislaw23_large.calls K1 a A0_1 c0_1 L false _ (Kd.C_below HG.out (by repeat (first | (with_reducible first | exact Below.refl _ _ | apply below_alloc | apply pw_below_drewN | apply below_drew1) | exact Below.refl _ _))) HC.out H1.out).mono ?_); rintro e w2 ⟨rfl, hb2⟩; have hw2 := below_step (w := w1) (by repeat (first | (with_reducible first | exact Below.refl _ _ | apply below_alloc | apply pw_below_drewN | apply below_drew1) | exact Below.refl _ _)) hb2; replace HB := Aside0.mk (below_step HB.out hw2); replace HG := Aside0.mk (Kd.C_below HG.out hw2); replace HP := Aside0.mk (Kd.C_below HP.out hw2); replace hx0 := cell_move hx0 (fun hlt => hw2.block _ hlt); replace hx1 := cell_move hx1 (fun hlt => hw2.block _ hlt); clear hb2 hw2)
    | (go_at_call 19; (refine (galoislaw23_awake.calls true _ rfl).mono ?_); rintro e w1 ⟨rfl, hb1⟩; have hw1 := below_step (w := (w.alloc (.cells #[.int .i64 a, .slice A0_1 L.length c0_1] 24))) (by repeat (first | (with_reducible first | exact Below.refl _ _ | apply below_alloc | apply pw_below_drewN | apply below_drew1) | exact Below.refl _ _)) hb1; replace HB := Aside0.mk (below_step HB.out hw1); replace HG := Aside0.mk (Kd.C_below HG.out hw1); replace HP := Aside0.mk (Kd.C_below HP.out hw1); replace hx0 := cell_move hx0 (fun hlt => hw1.block _ hlt); replace hx1 := cell_move hx1 (fun hlt => hw1.block _ hlt); clear hb1 hw1))
  go_ret
  exact ⟨rfl, below_then (below_alloc (Below.refl _ _) _) (by simp) HB.out⟩
set_option maxHeartbeats 16000000 in
set_option maxRecDepth 100000 in
theorem stabs_bad (a : Int) (A0_1 : Option Addr) (c0_1 : Nat) (L : List (List Int)) (A1 : Option Addr) (c1 : Nat) (l1 : List Int) (w : World) (hr0_1 : Kd.C (Kd.slice 3 (Kd.int .i64)) w A0_1 L.length L) (hc0_1 : L.length ≤ c0_1) (hr1 : Kd.C (Kd.int .i64) w A1 l1.length l1) (hc1 : l1.length ≤ c1) (K1 : Nat) (h1 : PPg.galoislaw23_large.f K1 a L = some false) (hl : l1.length ≤ 20) (K2 K3 K4 : Nat) (s1 t1 e1 : Int) (S2 T2 : List (List Int)) (h2 : permgroup_Stabilizer.f K2 a L l1 = some (s1, S2, e1)) (h3 : permgroup_SetStabilizer.f K3 a L l1 = some (t1, T2, e1)) (h4 : PRf.galoisref23_Points.f K4 a L l1 = some e1) (hw : e1 ≠ 0) (h5 : PPg.galoislaw23_none.f s1 S2 = some true) (h6 : PPg.galoislaw23_none.f t1 T2 = some true) : Calls Tryz.prog 4 #[.agg #[.int .i64 a, .slice A0_1 L.length c0_1], .slice A1 l1.length c1] w fun e w' => e = .returned (.bool true) ∧ Below w.heap.size w w' := by
  have H1 := Aside0.mk h1
  have H2 := Aside0.mk h2
  have H3 := Aside0.mk h3
  have H5 := Aside0.mk h5
  have H6 := Aside0.mk h6
  have d3 : (e1 == 0) = false := beq_eq_false_iff_ne.mpr hw
  have d4 : (e1 != 0) = true := bne_iff_ne.mpr hw
  have H4 := Aside0.mk h4
  have d1 : decide (20 < (l1.length : Int)) = false := decide_eq_false (by omega)
  have d2 : decide (20 < l1.length) = false := decide_eq_false (by omega)
  clear h1 h2 h3 h4 h5 h6 hw hl
  have hu := Tryz.underlying24
  have HB : Aside0 (Below (w.alloc (.cells #[.int .i64 a, .slice A0_1 L.length c0_1] 24)).heap.size (w.alloc (.cells #[.int .i64 a, .slice A0_1 L.length c0_1] 24)) (w.alloc (.cells #[.int .i64 a, .slice A0_1 L.length c0_1] 24))) := ⟨Below.refl _ _⟩
  have HC := Aside0.mk hc0_1
  have HC1 := Aside0.mk hc1
  have HBW : Aside0 (Below w.heap.size w (w.alloc (.cells #[.int .i64 a, .slice A0_1 L.length c0_1] 24))) := ⟨below_alloc (Below.refl _ _) _⟩
  have HG := Aside0.mk (Kd.C_below hr0_1 HBW.out)
  have HP := Aside0.mk (Kd.C_below hr1 HBW.out)
  have hx0 : (w.alloc (.cells #[.int .i64 a, .slice A0_1 L.length c0_1] 24)).cell? ⟨w.heap.size, 0, none⟩ = some (.int .i64 a) := by rw [World.cell?_alloc_at _ _ _ _ rfl]; rfl
  have hx1 : (w.alloc (.cells #[.int .i64 a, .slice A0_1 L.length c0_1] 24)).cell? ⟨w.heap.size, 1, none⟩ = some (.slice A0_1 L.length c0_1) := by rw [World.cell?_alloc_at _ _ _ _ rfl]; rfl
  clear hr0_1 hc0_1 hr1 hc1
  go_enter Tryz.func4, Tryz.ntmps4
  go_upto_region 3 with (first
    | (go_at_call 20; have hq_ : w1 = w1 := rfl; clear hq_; (refine (PPg.galoislaw23_large.calls K1 a A0_1 c0_1 L false _ (Kd.C_below HG.out (by repeat (first | (with_reducible first | exact Below.refl _ _ | apply below_alloc | apply pw_below_drewN | apply below_drew1) | exact Below.refl _ _))) HC.out H1.out).mono ?_); rintro e w2 ⟨rfl, hb2⟩; have hw2 := below_step (w := w1) (by repeat (first | (with_reducible first | exact Below.refl _ _ | apply below_alloc | apply pw_below_drewN | apply below_drew1) | exact Below.refl _ _)) hb2; replace HB := Aside0.mk (below_step HB.out hw2); replace HG := Aside0.mk (Kd.C_below HG.out hw2); replace HP := Aside0.mk (Kd.C_below HP.out hw2); replace hx0 := cell_move hx0 (fun hlt => hw2.block _ hlt); replace hx1 := cell_move hx1 (fun hlt => hw2.block _ hlt); clear hb2 hw2)
    | (go_at_call 19; (refine (galoislaw23_awake.calls true _ rfl).mono ?_); rintro e w1 ⟨rfl, hb1⟩; have hw1 := below_step (w := (w.alloc (.cells #[.int .i64 a, .slice A0_1 L.length c0_1] 24))) (by repeat (first | (with_reducible first | exact Below.refl _ _ | apply below_alloc | apply pw_below_drewN | apply below_drew1) | exact Below.refl _ _)) hb1; replace HB := Aside0.mk (below_step HB.out hw1); replace HG := Aside0.mk (Kd.C_below HG.out hw1); replace HP := Aside0.mk (Kd.C_below HP.out hw1); replace hx0 := cell_move hx0 (fun hlt => hw1.block _ hlt); replace hx1 := cell_move hx1 (fun hlt => hw1.block _ hlt); clear hb1 hw1))
  go_cut [5, 6] (fun v5 v6 wx => ∃ (sb : Nat) (A : Option Addr) (c : Nat), v5 = .pointer (some ⟨sb, 0, none⟩) ∧ v6 = .int .i64 e1 ∧ Aside0 (wx.heap[sb]? = some (.cells #[.int .i64 s1, .slice A S2.length c] 24 (0, 0))) ∧ Aside0 (Kd.C (Kd.slice 3 (Kd.int .i64)) wx A S2.length S2 ∧ S2.length ≤ c) ∧ Aside0 (Below w2.heap.size w2 wx))
  case first =>
    go_wp2_with (go_at_call 21; (refine (permgroup_Stabilizer.calls K2 a A0_1 c0_1 L A1 c1 l1 s1 S2 e1 _ (Kd.C_below HG.out (by repeat (first | (with_reducible first | exact Below.refl _ _ | apply below_alloc | apply pw_below_drewN | apply below_drew1) | exact Below.refl _ _))) HC.out (Kd.C_below HP.out (by repeat (first | (with_reducible first | exact Below.refl _ _ | apply below_alloc | apply pw_below_drewN | apply below_drew1) | exact Below.refl _ _))) HC1.out H2.out).mono ?_); rintro e w5_ ⟨v5_, rfl, hs5, hb5⟩; have HS := Aside0.mk hs5; have HBC := Aside0.mk (below_step (w := w2) (by repeat (first | (with_reducible first | exact Below.refl _ _ | apply below_alloc | apply pw_below_drewN | apply below_drew1) | exact Below.refl _ _)) hb5); obtain ⟨A5_, c5_, e5_⟩ := Kd.R_slice (Kd.S_R hs5); subst e5_; clear hs5 hb5)
    go_meet
    first
      | exact ⟨_, A5_, c5_, rfl, rfl, ⟨blk_new _ _⟩, ⟨(Kd.S_reads' (Kd.S_alloc HS.out _)).2.2, (Kd.S_reads' HS.out).2.1⟩, ⟨below_then HBC.out HBC.out.size (below_alloc (Below.refl _ _) _)⟩⟩
      | (have hk0 := blk_new w5_ (.cells #[.int .i64 0, .slice none 0 0] 24); have p1 := blk_put hk0 0 (.int .i64 s1) rfl; have p2 := blk_put p1 1 (.slice A5_ S2.length c5_) rfl; have hty : ∀ q, q ∈ 39 :: (Kd.slice 3 (Kd.int .i64)).E → q ≠ 24 := by decide; have s2 := Kd.S_set (Kd.S_set (Kd.S_alloc HS.out _) hk0 hty 0 (.int .i64 s1)) p1 hty 1 (.slice A5_ S2.length c5_); exact ⟨_, A5_, c5_, rfl, rfl, ⟨p2⟩, ⟨(Kd.S_reads' s2).2.2, (Kd.S_reads' s2).2.1⟩, ⟨((below_then HBC.out HBC.out.size (below_alloc (Below.refl _ _) _)).setCell HBC.out.size _).setCell HBC.out.size _⟩⟩)
  case rest =>
    obtain ⟨sb, As, cs, rfl, rfl, HZS, HCS, HBX⟩ := hcut
    replace HB := Aside0.mk (below_step HB.out HBX.out)
    replace HG := Aside0.mk (Kd.C_below HG.out HBX.out)
    replace HP := Aside0.mk (Kd.C_below HP.out HBX.out)
    replace hx0 := cell_move hx0 (fun hlt => HBX.out.block _ hlt)
    replace hx1 := cell_move hx1 (fun hlt => HBX.out.block _ hlt)
    clear HBX
    go_upto_region 4 with fail
    go_cut [7, 8] (fun v5 v6 wx => ∃ (sb : Nat) (A : Option Addr) (c : Nat), v5 = .pointer (some ⟨sb, 0, none⟩) ∧ v6 = .int .i64 e1 ∧ Aside0 (wx.heap[sb]? = some (.cells #[.int .i64 t1, .slice A T2.length c] 24 (0, 0))) ∧ Aside0 (Kd.C (Kd.slice 3 (Kd.int .i64)) wx A T2.length T2 ∧ T2.length ≤ c) ∧ Aside0 (Below wc.heap.size wc wx))
    case first =>
      go_wp2_with (go_at_call 22; (refine (permgroup_SetStabilizer.calls K3 a A0_1 c0_1 L A1 c1 l1 t1 T2 e1 _ (Kd.C_below HG.out (by repeat (first | (with_reducible first | exact Below.refl _ _ | apply below_alloc | apply pw_below_drewN | apply below_drew1) | exact Below.refl _ _))) HC.out (Kd.C_below HP.out (by repeat (first | (with_reducible first | exact Below.refl _ _ | apply below_alloc | apply pw_below_drewN | apply below_drew1) | exact Below.refl _ _))) HC1.out H3.out).mono ?_); rintro e w5_ ⟨v5_, rfl, hs5, hb5⟩; have HS := Aside0.mk hs5; have HBC := Aside0.mk (below_step (w := wc) (by repeat (first | (with_reducible first | exact Below.refl _ _ | apply below_alloc | apply pw_below_drewN | apply below_drew1) | exact Below.refl _ _)) hb5); obtain ⟨A5_, c5_, e5_⟩ := Kd.R_slice (Kd.S_R hs5); subst e5_; clear hs5 hb5)
      go_meet
      first
        | exact ⟨_, A5_, c5_, rfl, rfl, ⟨blk_new _ _⟩, ⟨(Kd.S_reads' (Kd.S_alloc HS.out _)).2.2, (Kd.S_reads' HS.out).2.1⟩, ⟨below_then HBC.out HBC.out.size (below_alloc (Below.refl _ _) _)⟩⟩
        | (have hk0 := blk_new w5_ (.cells #[.int .i64 0, .slice none 0 0] 24); have p1 := blk_put hk0 0 (.int .i64 t1) rfl; have p2 := blk_put p1 1 (.slice A5_ T2.length c5_) rfl; have hty : ∀ q, q ∈ 39 :: (Kd.slice 3 (Kd.int .i64)).E → q ≠ 24 := by decide; have s2 := Kd.S_set (Kd.S_set (Kd.S_alloc HS.out _) hk0 hty 0 (.int .i64 t1)) p1 hty 1 (.slice A5_ T2.length c5_); exact ⟨_, A5_, c5_, rfl, rfl, ⟨p2⟩, ⟨(Kd.S_reads' s2).2.2, (Kd.S_reads' s2).2.1⟩, ⟨((below_then HBC.out HBC.out.size (below_alloc (Below.refl _ _) _)).setCell HBC.out.size _).setCell HBC.out.size _⟩⟩)
    case rest =>
      obtain ⟨tb, At, ct, rfl, rfl, HZT, HCT, HBX⟩ := hcut
      replace HB := Aside0.mk (below_step HB.out HBX.out)
      replace HG := Aside0.mk (Kd.C_below HG.out HBX.out)
      replace HP := Aside0.mk (Kd.C_below HP.out HBX.out)
      replace hx0 := cell_move hx0 (fun hlt => HBX.out.block _ hlt)
      replace hx1 := cell_move hx1 (fun hlt => HBX.out.block _ hlt)
      replace HZS := Aside0.mk ((HBX.out.block _ (blk_lt HZS.out)).trans HZS.out)
      have HGS := Aside0.mk (Kd.C_below HCS.out.1 HBX.out)
      have HGSc := Aside0.mk HCS.out.2
      have HGT := Aside0.mk HCT.out.1
      have HGTc := Aside0.mk HCT.out.2
      have hs0 := blk_cell HZS.out 0
      have hs1 := blk_cell HZS.out 1
      have ht0 := blk_cell HZT.out 0
      have ht1 := blk_cell HZT.out 1
      simp only [List.getElem?_toArray, List.getElem?_cons_zero, List.getElem?_cons_succ] at hs0 hs1 ht0 ht1
      clear HBX HZS HZT HCS HCT
      go_wp2_with (first
        | (go_at_call 24; have hq_ : w11 = w11 := rfl; clear hq_; (refine (PPg.galoislaw23_none.calls t1 At ct T2 true _ (Kd.C_below HGT.out (by repeat (first | (with_reducible first | exact Below.refl _ _ | apply below_alloc | apply pw_below_drewN | apply below_drew1) | exact Below.refl _ _))) HGTc.out H6.out).mono ?_); rintro e w12 ⟨rfl, hb12⟩; have hw12 := below_step (w := w11) (by repeat (first | (with_reducible first | exact Below.refl _ _ | apply below_alloc | apply pw_below_drewN | apply below_drew1) | exact Below.refl _ _)) hb12; replace HB := Aside0.mk (below_step HB.out hw12); replace HG := Aside0.mk (Kd.C_below HG.out hw12); replace HP := Aside0.mk (Kd.C_below HP.out hw12); replace hx0 := cell_move hx0 (fun hlt => hw12.block _ hlt); replace hx1 := cell_move hx1 (fun hlt => hw12.block _ hlt); replace HGS := Aside0.mk (Kd.C_below HGS.out hw12); replace HGT := Aside0.mk (Kd.C_below HGT.out hw12); replace hs0 := cell_move hs0 (fun hlt => hw12.block _ hlt); replace hs1 := cell_move hs1 (fun hlt => hw12.block _ hlt); replace ht0 := cell_move ht0 (fun hlt => hw12.block _ hlt); replace ht1 := cell_move ht1 (fun hlt => hw12.block _ hlt); clear hb12 hw12)
        | (go_at_call 24; have hq_ : w10 = w10 := rfl; clear hq_; (refine (PPg.galoislaw23_none.calls s1 As cs S2 true _ (Kd.C_below HGS.out (by repeat (first | (with_reducible first | exact Below.refl _ _ | apply below_alloc | apply pw_below_drewN | apply below_drew1) | exact Below.refl _ _))) HGSc.out H5.out).mono ?_); rintro e w11 ⟨rfl, hb11⟩; have hw11 := below_step (w := w10) (by repeat (first | (with_reducible first | exact Below.refl _ _ | apply below_alloc | apply pw_below_drewN | apply below_drew1) | exact Below.refl _ _)) hb11; replace HB := Aside0.mk (below_step HB.out hw11); replace HG := Aside0.mk (Kd.C_below HG.out hw11); replace HP := Aside0.mk (Kd.C_below HP.out hw11); replace hx0 := cell_move hx0 (fun hlt => hw11.block _ hlt); replace hx1 := cell_move hx1 (fun hlt => hw11.block _ hlt); replace HGS := Aside0.mk (Kd.C_below HGS.out hw11); replace HGT := Aside0.mk (Kd.C_below HGT.out hw11); replace hs0 := cell_move hs0 (fun hlt => hw11.block _ hlt); replace hs1 := cell_move hs1 (fun hlt => hw11.block _ hlt); replace ht0 := cell_move ht0 (fun hlt => hw11.block _ hlt); replace ht1 := cell_move ht1 (fun hlt => hw11.block _ hlt); clear hb11 hw11)
        | (go_at_call 23; have hq_ : wc = wc := rfl; clear hq_; (refine (PRf.galoisref23_Points.calls K4 a A0_1 c0_1 L A1 c1 l1 e1 _ (Kd.C_below HG.out (by repeat (first | (with_reducible first | exact Below.refl _ _ | apply below_alloc | apply pw_below_drewN | apply below_drew1) | exact Below.refl _ _))) HC.out (Kd.C_below HP.out (by repeat (first | (with_reducible first | exact Below.refl _ _ | apply below_alloc | apply pw_below_drewN | apply below_drew1) | exact Below.refl _ _))) HC1.out H4.out).mono ?_); rintro e w10 ⟨rfl, hb10⟩; have hw10 := below_step (w := wc) (by repeat (first | (with_reducible first | exact Below.refl _ _ | apply below_alloc | apply pw_below_drewN | apply below_drew1) | exact Below.refl _ _)) hb10; replace HB := Aside0.mk (below_step HB.out hw10); replace HG := Aside0.mk (Kd.C_below HG.out hw10); replace HP := Aside0.mk (Kd.C_below HP.out hw10); replace hx0 := cell_move hx0 (fun hlt => hw10.block _ hlt); replace hx1 := cell_move hx1 (fun hlt => hw10.block _ hlt); replace HGS := Aside0.mk (Kd.C_below HGS.out hw10); replace HGT := Aside0.mk (Kd.C_below HGT.out hw10); replace hs0 := cell_move hs0 (fun hlt => hw10.block _ hlt); replace hs1 := cell_move hs1 (fun hlt => hw10.block _ hlt); replace ht0 := cell_move ht0 (fun hlt => hw10.block _ hlt); replace ht1 := cell_move ht1 (fun hlt => hw10.block _ hlt); clear hb10 hw10))
      go_ret
      exact ⟨rfl, below_then (below_alloc (Below.refl _ _) _) (by simp) HB.out⟩
end Go.Proofs.YtmbldnoepjmhhaaGreat.Bs
end
section
/- The walk of PermgroupStabilizers, by values: the way without an error. -/
namespace Go.Proofs.YtmbldnoepjmhhaaGreat.Bs
open Go.RowKit Go.Proofs.YtmbldnoepjmhhaaGreatW.PrintWords Go.Proofs.YtmbldnoepjmhhaaGreatW.PrintLast Go.Proofs.YtmbldnoepjmhhaaGreatW.PrintMore Go.Proofs.YtmbldnoepjmhhaaGreat.Plain Go.Proofs.YtmbldnoepjmhhaaGreat.PBs Go.Proofs.YtmbldnoepjmhhaaGreat.PAll
set_option maxHeartbeats 16000000 in
set_option maxRecDepth 100000 in
theorem stabs_ok (a : Int) (A0_1 : Option Addr) (c0_1 : Nat) (L : List (List Int)) (A1 : Option Addr) (c1 : Nat) (l1 : List Int) (w : World) (hr0_1 : Kd.C (Kd.slice 3 (Kd.int .i64)) w A0_1 L.length L) (hc0_1 : L.length ≤ c0_1) (hr1 : Kd.C (Kd.int .i64) w A1 l1.length l1) (hc1 : l1.length ≤ c1) (K1 : Nat) (h1 : PPg.galoislaw23_large.f K1 a L = some false) (hl : l1.length ≤ 20) (K2 K3 K4 : Nat) (s1 t1 : Int) (S2 T2 : List (List Int)) (h2 : permgroup_Stabilizer.f K2 a L l1 = some (s1, S2, 0)) (h3 : permgroup_SetStabilizer.f K3 a L l1 = some (t1, T2, 0)) (h4 : PRf.galoisref23_Points.f K4 a L l1 = some 0) (E F F2 : List (List Int)) (K5 K6 K7 K8 K9 K10 K11 : Nat) (h5 : PPg.galoisref23_Elements.f K5 a L = some (E, true)) (h6 : PRf.galoisref23_Fixing.f K6 E l1 = some F) (h7 : PGr.galoisref23_Greedy.f K7 a F = some (s1, S2)) (h8 : PRf.galoisref23_Equal.f K8 s1 S2 s1 S2 = some true) (h9 : PRf.galoisref23_Keeping.f K9 E l1 = some F2) (h10 : PGr.galoisref23_Greedy.f K10 a F2 = some (t1, T2)) (h11 : PRf.galoisref23_Equal.f K11 t1 T2 t1 T2 = some true) : Calls Tryz.prog 4 #[.agg #[.int .i64 a, .slice A0_1 L.length c0_1], .slice A1 l1.length c1] w fun e w' => e = .returned (.bool true) ∧ Below w.heap.size w w' := by
  have H1 := Aside0.mk h1
  have H2 := Aside0.mk h2
  have H3 := Aside0.mk h3
  have H5 := Aside0.mk h5
  have H6 := Aside0.mk h6
  have H7 := Aside0.mk h7
  have H8 := Aside0.mk h8
  have H9 := Aside0.mk h9
  have H10 := Aside0.mk h10
  have H11 := Aside0.mk h11
  have H4 := Aside0.mk h4
  have d1 : decide (20 < (l1.length : Int)) = false := decide_eq_false (by omega)
  have d2 : decide (20 < l1.length) = false := decide_eq_false (by omega)
  clear h1 h2 h3 h4 h5 h6 h7 h8 h9 h10 h11 hl
  have hu := Tryz.underlying24
  have HB : Aside0 (Below (w.alloc (.cells #[.int .i64 a, .slice A0_1 L.length c0_1] 24)).heap.size (w.alloc (.cells #[.int .i64 a, .slice A0_1 L.length c0_1] 24)) (w.alloc (.cells #[.int .i64 a, .slice A0_1 L.length c0_1] 24))) := ⟨Below.refl _ _⟩
  have HC := Aside0.mk hc0_1
  have HC1 := Aside0.mk hc1
  have HBW : Aside0 (Below w.heap.size w (w.alloc (.cells #[.int .i64 a, .slice A0_1 L.length c0_1] 24))) := ⟨below_alloc (Below.refl _ _) _⟩
  have HG := Aside0.mk (Kd.C_below hr0_1 HBW.out)
  have HP := Aside0.mk (Kd.C_below hr1 HBW.out)
  have hx0 : (w.alloc (.cells #[.int .i64 a, .slice A0_1 L.length c0_1] 24)).cell? ⟨w.heap.size, 0, none⟩ = some (.int .i64 a) := by rw [World.cell?_alloc_at _ _ _ _ rfl]; rfl
  have hx1 : (w.alloc (.cells #[.int .i64 a, .slice A0_1 L.length c0_1] 24)).cell? ⟨w.heap.size, 1, none⟩ = some (.slice A0_1 L.length c0_1) := by rw [World.cell?_alloc_at _ _ _ _ rfl]; rfl
  clear hr0_1 hc0_1 hr1 hc1
  go_enter Tryz.func4, Tryz.ntmps4
  go_upto_region 3 with (first
    | (go_at_call 20; have hq_ : w1 = w1 := rfl; clear hq_; (refine (PPg.galoislaw23_large.calls K1 a A0_1 c0_1 L false _ (Kd.C_below HG.out (by repeat (first | (with_reducible first | exact Below.refl _ _ | apply below_alloc | apply pw_below_drewN | apply below_drew1) | exact Below.refl _ _))) HC.out H1.out).mono ?_); rintro e w2 ⟨rfl, hb2⟩; have hw2 := below_step (w := w1) (by repeat (first | (with_reducible first | exact Below.refl _ _ | apply below_alloc | apply pw_below_drewN | apply below_drew1) | exact Below.refl _ _)) hb2; replace HB := Aside0.mk (below_step HB.out hw2); replace HG := Aside0.mk (Kd.C_below HG.out hw2); replace HP := Aside0.mk (Kd.C_below HP.out hw2); replace hx0 := cell_move hx0 (fun hlt => hw2.block _ hlt); replace hx1 := cell_move hx1 (fun hlt => hw2.block _ hlt); clear hb2 hw2)
    | (go_at_call 19; (refine (galoislaw23_awake.calls true _ rfl).mono ?_); rintro e w1 ⟨rfl, hb1⟩; have hw1 := below_step (w := (w.alloc (.cells #[.int .i64 a, .slice A0_1 L.length c0_1] 24))) (by repeat (first | (with_reducible first | exact Below.refl _ _ | apply below_alloc | apply pw_below_drewN | apply below_drew1) | exact Below.refl _ _)) hb1; replace HB := Aside0.mk (below_step HB.out hw1); replace HG := Aside0.mk (Kd.C_below HG.out hw1); replace HP := Aside0.mk (Kd.C_below HP.out hw1); replace hx0 := cell_move hx0 (fun hlt => hw1.block _ hlt); replace hx1 := cell_move hx1 (fun hlt => hw1.block _ hlt); clear hb1 hw1))
  go_cut [5, 6] (fun v5 v6 wx => ∃ (sb : Nat) (A : Option Addr) (c : Nat), v5 = .pointer (some ⟨sb, 0, none⟩) ∧ v6 = .int .i64 0 ∧ Aside0 (wx.heap[sb]? = some (.cells #[.int .i64 s1, .slice A S2.length c] 24 (0, 0))) ∧ Aside0 (Kd.C (Kd.slice 3 (Kd.int .i64)) wx A S2.length S2 ∧ S2.length ≤ c) ∧ Aside0 (Below w2.heap.size w2 wx))
  case first =>
    go_wp2_with (go_at_call 21; (refine (permgroup_Stabilizer.calls K2 a A0_1 c0_1 L A1 c1 l1 s1 S2 0 _ (Kd.C_below HG.out (by repeat (first | (with_reducible first | exact Below.refl _ _ | apply below_alloc | apply pw_below_drewN | apply below_drew1) | exact Below.refl _ _))) HC.out (Kd.C_below HP.out (by repeat (first | (with_reducible first | exact Below.refl _ _ | apply below_alloc | apply pw_below_drewN | apply below_drew1) | exact Below.refl _ _))) HC1.out H2.out).mono ?_); rintro e w5_ ⟨v5_, rfl, hs5, hb5⟩; have HS := Aside0.mk hs5; have HBC := Aside0.mk (below_step (w := w2) (by repeat (first | (with_reducible first | exact Below.refl _ _ | apply below_alloc | apply pw_below_drewN | apply below_drew1) | exact Below.refl _ _)) hb5); obtain ⟨A5_, c5_, e5_⟩ := Kd.R_slice (Kd.S_R hs5); subst e5_; clear hs5 hb5)
    go_meet
    first
      | exact ⟨_, A5_, c5_, rfl, rfl, ⟨blk_new _ _⟩, ⟨(Kd.S_reads' (Kd.S_alloc HS.out _)).2.2, (Kd.S_reads' HS.out).2.1⟩, ⟨below_then HBC.out HBC.out.size (below_alloc (Below.refl _ _) _)⟩⟩
      | (have hk0 := blk_new w5_ (.cells #[.int .i64 0, .slice none 0 0] 24); have p1 := blk_put hk0 0 (.int .i64 s1) rfl; have p2 := blk_put p1 1 (.slice A5_ S2.length c5_) rfl; have hty : ∀ q, q ∈ 39 :: (Kd.slice 3 (Kd.int .i64)).E → q ≠ 24 := by decide; have s2 := Kd.S_set (Kd.S_set (Kd.S_alloc HS.out _) hk0 hty 0 (.int .i64 s1)) p1 hty 1 (.slice A5_ S2.length c5_); exact ⟨_, A5_, c5_, rfl, rfl, ⟨p2⟩, ⟨(Kd.S_reads' s2).2.2, (Kd.S_reads' s2).2.1⟩, ⟨((below_then HBC.out HBC.out.size (below_alloc (Below.refl _ _) _)).setCell HBC.out.size _).setCell HBC.out.size _⟩⟩)
  case rest =>
    obtain ⟨sb, As, cs, rfl, rfl, HZS, HCS, HBX⟩ := hcut
    replace HB := Aside0.mk (below_step HB.out HBX.out)
    replace HG := Aside0.mk (Kd.C_below HG.out HBX.out)
    replace HP := Aside0.mk (Kd.C_below HP.out HBX.out)
    replace hx0 := cell_move hx0 (fun hlt => HBX.out.block _ hlt)
    replace hx1 := cell_move hx1 (fun hlt => HBX.out.block _ hlt)
    clear HBX
    go_upto_region 4 with fail
    go_cut [7, 8] (fun v5 v6 wx => ∃ (sb : Nat) (A : Option Addr) (c : Nat), v5 = .pointer (some ⟨sb, 0, none⟩) ∧ v6 = .int .i64 0 ∧ Aside0 (wx.heap[sb]? = some (.cells #[.int .i64 t1, .slice A T2.length c] 24 (0, 0))) ∧ Aside0 (Kd.C (Kd.slice 3 (Kd.int .i64)) wx A T2.length T2 ∧ T2.length ≤ c) ∧ Aside0 (Below wc.heap.size wc wx))
    case first =>
      go_wp2_with (go_at_call 22; (refine (permgroup_SetStabilizer.calls K3 a A0_1 c0_1 L A1 c1 l1 t1 T2 0 _ (Kd.C_below HG.out (by repeat (first | (with_reducible first | exact Below.refl _ _ | apply below_alloc | apply pw_below_drewN | apply below_drew1) | exact Below.refl _ _))) HC.out (Kd.C_below HP.out (by repeat (first | (with_reducible first | exact Below.refl _ _ | apply below_alloc | apply pw_below_drewN | apply below_drew1) | exact Below.refl _ _))) HC1.out H3.out).mono ?_); rintro e w5_ ⟨v5_, rfl, hs5, hb5⟩; have HS := Aside0.mk hs5; have HBC := Aside0.mk (below_step (w := wc) (by repeat (first | (with_reducible first | exact Below.refl _ _ | apply below_alloc | apply pw_below_drewN | apply below_drew1) | exact Below.refl _ _)) hb5); obtain ⟨A5_, c5_, e5_⟩ := Kd.R_slice (Kd.S_R hs5); subst e5_; clear hs5 hb5)
      go_meet
      first
        | exact ⟨_, A5_, c5_, rfl, rfl, ⟨blk_new _ _⟩, ⟨(Kd.S_reads' (Kd.S_alloc HS.out _)).2.2, (Kd.S_reads' HS.out).2.1⟩, ⟨below_then HBC.out HBC.out.size (below_alloc (Below.refl _ _) _)⟩⟩
        | (have hk0 := blk_new w5_ (.cells #[.int .i64 0, .slice none 0 0] 24); have p1 := blk_put hk0 0 (.int .i64 t1) rfl; have p2 := blk_put p1 1 (.slice A5_ T2.length c5_) rfl; have hty : ∀ q, q ∈ 39 :: (Kd.slice 3 (Kd.int .i64)).E → q ≠ 24 := by decide; have s2 := Kd.S_set (Kd.S_set (Kd.S_alloc HS.out _) hk0 hty 0 (.int .i64 t1)) p1 hty 1 (.slice A5_ T2.length c5_); exact ⟨_, A5_, c5_, rfl, rfl, ⟨p2⟩, ⟨(Kd.S_reads' s2).2.2, (Kd.S_reads' s2).2.1⟩, ⟨((below_then HBC.out HBC.out.size (below_alloc (Below.refl _ _) _)).setCell HBC.out.size _).setCell HBC.out.size _⟩⟩)
    case rest =>
      obtain ⟨tb, At, ct, rfl, rfl, HZT, HCT, HBX⟩ := hcut
      replace HB := Aside0.mk (below_step HB.out HBX.out)
      replace HG := Aside0.mk (Kd.C_below HG.out HBX.out)
      replace HP := Aside0.mk (Kd.C_below HP.out HBX.out)
      replace hx0 := cell_move hx0 (fun hlt => HBX.out.block _ hlt)
      replace hx1 := cell_move hx1 (fun hlt => HBX.out.block _ hlt)
      replace HZS := Aside0.mk ((HBX.out.block _ (blk_lt HZS.out)).trans HZS.out)
      have HGS := Aside0.mk (Kd.C_below HCS.out.1 HBX.out)
      have HGSc := Aside0.mk HCS.out.2
      have HGT := Aside0.mk HCT.out.1
      have HGTc := Aside0.mk HCT.out.2
      have hs0 := blk_cell HZS.out 0
      have hs1 := blk_cell HZS.out 1
      have ht0 := blk_cell HZT.out 0
      have ht1 := blk_cell HZT.out 1
      simp only [List.getElem?_toArray, List.getElem?_cons_zero, List.getElem?_cons_succ] at hs0 hs1 ht0 ht1
      clear HBX HZS HZT HCS HCT
      go_wp2_with (first
        | (go_at_call 25; have hq_ : w10 = w10 := rfl; clear hq_; (refine (PPg.galoisref23_Elements.calls K5 a A0_1 c0_1 L E true _ (Kd.C_below HG.out (by repeat (first | (with_reducible first | exact Below.refl _ _ | apply below_alloc | apply pw_below_drewN | apply below_drew1) | exact Below.refl _ _))) HC.out H5.out).mono ?_); rintro e w11 ⟨v11, rfl, hs11, hb11⟩; have hw11 := below_step (w := w10) (by repeat (first | (with_reducible first | exact Below.refl _ _ | apply below_alloc | apply pw_below_drewN | apply below_drew1) | exact Below.refl _ _)) hb11; replace HB := Aside0.mk (below_step HB.out hw11); replace HG := Aside0.mk (Kd.C_below HG.out hw11); replace HP := Aside0.mk (Kd.C_below HP.out hw11); replace hx0 := cell_move hx0 (fun hlt => hw11.block _ hlt); replace hx1 := cell_move hx1 (fun hlt => hw11.block _ hlt); replace HGS := Aside0.mk (Kd.C_below HGS.out hw11); replace HGT := Aside0.mk (Kd.C_below HGT.out hw11); replace hs0 := cell_move hs0 (fun hlt => hw11.block _ hlt); replace hs1 := cell_move hs1 (fun hlt => hw11.block _ hlt); replace ht0 := cell_move ht0 (fun hlt => hw11.block _ hlt); replace ht1 := cell_move ht1 (fun hlt => hw11.block _ hlt); obtain ⟨A11, c11, e11⟩ := Kd.R_slice (Kd.S_R hs11); subst e11; have HE := Aside0.mk (Kd.S_reads' hs11).2.2; have HEc := Aside0.mk (Kd.S_reads' hs11).2.1; clear hs11; clear hb11 hw11)
        | (go_at_call 23; have hq_ : wc = wc := rfl; clear hq_; (refine (PRf.galoisref23_Points.calls K4 a A0_1 c0_1 L A1 c1 l1 0 _ (Kd.C_below HG.out (by repeat (first | (with_reducible first | exact Below.refl _ _ | apply below_alloc | apply pw_below_drewN | apply below_drew1) | exact Below.refl _ _))) HC.out (Kd.C_below HP.out (by repeat (first | (with_reducible first | exact Below.refl _ _ | apply below_alloc | apply pw_below_drewN | apply below_drew1) | exact Below.refl _ _))) HC1.out H4.out).mono ?_); rintro e w10 ⟨rfl, hb10⟩; have hw10 := below_step (w := wc) (by repeat (first | (with_reducible first | exact Below.refl _ _ | apply below_alloc | apply pw_below_drewN | apply below_drew1) | exact Below.refl _ _)) hb10; replace HB := Aside0.mk (below_step HB.out hw10); replace HG := Aside0.mk (Kd.C_below HG.out hw10); replace HP := Aside0.mk (Kd.C_below HP.out hw10); replace hx0 := cell_move hx0 (fun hlt => hw10.block _ hlt); replace hx1 := cell_move hx1 (fun hlt => hw10.block _ hlt); replace HGS := Aside0.mk (Kd.C_below HGS.out hw10); replace HGT := Aside0.mk (Kd.C_below HGT.out hw10); replace hs0 := cell_move hs0 (fun hlt => hw10.block _ hlt); replace hs1 := cell_move hs1 (fun hlt => hw10.block _ hlt); replace ht0 := cell_move ht0 (fun hlt => hw10.block _ hlt); replace ht1 := cell_move ht1 (fun hlt => hw10.block _ hlt); clear hb10 hw10))
      go_region_held3 (fun w' => w'.cell? ⟨w.heap.size, 0, none⟩ = some (.int .i64 a) ∧ w'.cell? ⟨sb, 0, none⟩ = some (.int .i64 s1) ∧ w'.cell? ⟨sb, 1, none⟩ = some (.slice As S2.length cs) ∧ w'.cell? ⟨tb, 0, none⟩ = some (.int .i64 t1) ∧ w'.cell? ⟨tb, 1, none⟩ = some (.slice At T2.length ct)) (first | exact ⟨hx0, hs0, hs1, ht0, ht1⟩ | go_keep)
        (first
          | (go_at_call 13; have hq_ : w16 = w16 := rfl; clear hq_; (refine (PRf.galoisref23_Equal.calls K11 t1 At ct T2 t1 A16 c16 T2 true _ (Kd.C_below HGT.out (by repeat (first | (with_reducible first | exact Below.refl _ _ | apply below_alloc | apply pw_below_drewN | apply below_drew1) | exact Below.refl _ _))) HGTc.out (Kd.C_below HGB.out (by repeat (first | (with_reducible first | exact Below.refl _ _ | apply below_alloc | apply pw_below_drewN | apply below_drew1) | exact Below.refl _ _))) HGBc.out H11.out).mono ?_); rintro e w17 ⟨rfl, hb17⟩; have hw17 := below_step (w := w16) (by repeat (first | (with_reducible first | exact Below.refl _ _ | apply below_alloc | apply pw_below_drewN | apply below_drew1) | exact Below.refl _ _)) hb17; replace HB := Aside0.mk (below_step HB.out hw17); replace HG := Aside0.mk (Kd.C_below HG.out hw17); replace HP := Aside0.mk (Kd.C_below HP.out hw17); replace hx0 := cell_move hx0 (fun hlt => hw17.block _ hlt); replace hx1 := cell_move hx1 (fun hlt => hw17.block _ hlt); replace HGS := Aside0.mk (Kd.C_below HGS.out hw17); replace HGT := Aside0.mk (Kd.C_below HGT.out hw17); replace hs0 := cell_move hs0 (fun hlt => hw17.block _ hlt); replace hs1 := cell_move hs1 (fun hlt => hw17.block _ hlt); replace ht0 := cell_move ht0 (fun hlt => hw17.block _ hlt); replace ht1 := cell_move ht1 (fun hlt => hw17.block _ hlt); replace HE := Aside0.mk (Kd.C_below HE.out hw17); replace HF := Aside0.mk (Kd.C_below HF.out hw17); replace HGA := Aside0.mk (Kd.C_below HGA.out hw17); replace HF2 := Aside0.mk (Kd.C_below HF2.out hw17); replace HGB := Aside0.mk (Kd.C_below HGB.out hw17); clear hb17 hw17)
          | (go_at_call 14; have hq_ : w15 = w15 := rfl; clear hq_; (refine (greedy_C K10 a A15 c15 F2 t1 T2 _ (Kd.C_below HF2.out (by repeat (first | (with_reducible first | exact Below.refl _ _ | apply below_alloc | apply pw_below_drewN | apply below_drew1) | exact Below.refl _ _))) HF2c.out H10.out).mono ?_); rintro e w16 ⟨A16, c16, rfl, hc16, hC16, hb16⟩; have hw16 := below_step (w := w15) (by repeat (first | (with_reducible first | exact Below.refl _ _ | apply below_alloc | apply pw_below_drewN | apply below_drew1) | exact Below.refl _ _)) hb16; replace HB := Aside0.mk (below_step HB.out hw16); replace HG := Aside0.mk (Kd.C_below HG.out hw16); replace HP := Aside0.mk (Kd.C_below HP.out hw16); replace hx0 := cell_move hx0 (fun hlt => hw16.block _ hlt); replace hx1 := cell_move hx1 (fun hlt => hw16.block _ hlt); replace HGS := Aside0.mk (Kd.C_below HGS.out hw16); replace HGT := Aside0.mk (Kd.C_below HGT.out hw16); replace hs0 := cell_move hs0 (fun hlt => hw16.block _ hlt); replace hs1 := cell_move hs1 (fun hlt => hw16.block _ hlt); replace ht0 := cell_move ht0 (fun hlt => hw16.block _ hlt); replace ht1 := cell_move ht1 (fun hlt => hw16.block _ hlt); replace HE := Aside0.mk (Kd.C_below HE.out hw16); replace HF := Aside0.mk (Kd.C_below HF.out hw16); replace HGA := Aside0.mk (Kd.C_below HGA.out hw16); replace HF2 := Aside0.mk (Kd.C_below HF2.out hw16); have HGB := Aside0.mk hC16; have HGBc := Aside0.mk hc16; clear hC16 hc16; clear hb16 hw16)
          | (go_at_call 27; have hq_ : w14 = w14 := rfl; clear hq_; (refine (keeping_C K9 A11 c11 E A1 c1 l1 F2 _ (Kd.C_below HE.out (by repeat (first | (with_reducible first | exact Below.refl _ _ | apply below_alloc | apply pw_below_drewN | apply below_drew1) | exact Below.refl _ _))) HEc.out (Kd.C_below HP.out (by repeat (first | (with_reducible first | exact Below.refl _ _ | apply below_alloc | apply pw_below_drewN | apply below_drew1) | exact Below.refl _ _))) HC1.out H9.out).mono ?_); rintro e w15 ⟨A15, c15, rfl, hc15, hC15, hb15⟩; have hw15 := below_step (w := w14) (by repeat (first | (with_reducible first | exact Below.refl _ _ | apply below_alloc | apply pw_below_drewN | apply below_drew1) | exact Below.refl _ _)) hb15; replace HB := Aside0.mk (below_step HB.out hw15); replace HG := Aside0.mk (Kd.C_below HG.out hw15); replace HP := Aside0.mk (Kd.C_below HP.out hw15); replace hx0 := cell_move hx0 (fun hlt => hw15.block _ hlt); replace hx1 := cell_move hx1 (fun hlt => hw15.block _ hlt); replace HGS := Aside0.mk (Kd.C_below HGS.out hw15); replace HGT := Aside0.mk (Kd.C_below HGT.out hw15); replace hs0 := cell_move hs0 (fun hlt => hw15.block _ hlt); replace hs1 := cell_move hs1 (fun hlt => hw15.block _ hlt); replace ht0 := cell_move ht0 (fun hlt => hw15.block _ hlt); replace ht1 := cell_move ht1 (fun hlt => hw15.block _ hlt); replace HE := Aside0.mk (Kd.C_below HE.out hw15); replace HF := Aside0.mk (Kd.C_below HF.out hw15); replace HGA := Aside0.mk (Kd.C_below HGA.out hw15); have HF2 := Aside0.mk hC15; have HF2c := Aside0.mk hc15; clear hC15 hc15; clear hb15 hw15)
          | (go_at_call 13; have hq_ : w13 = w13 := rfl; clear hq_; (refine (PRf.galoisref23_Equal.calls K8 s1 As cs S2 s1 A13 c13 S2 true _ (Kd.C_below HGS.out (by repeat (first | (with_reducible first | exact Below.refl _ _ | apply below_alloc | apply pw_below_drewN | apply below_drew1) | exact Below.refl _ _))) HGSc.out (Kd.C_below HGA.out (by repeat (first | (with_reducible first | exact Below.refl _ _ | apply below_alloc | apply pw_below_drewN | apply below_drew1) | exact Below.refl _ _))) HGAc.out H8.out).mono ?_); rintro e w14 ⟨rfl, hb14⟩; have hw14 := below_step (w := w13) (by repeat (first | (with_reducible first | exact Below.refl _ _ | apply below_alloc | apply pw_below_drewN | apply below_drew1) | exact Below.refl _ _)) hb14; replace HB := Aside0.mk (below_step HB.out hw14); replace HG := Aside0.mk (Kd.C_below HG.out hw14); replace HP := Aside0.mk (Kd.C_below HP.out hw14); replace hx0 := cell_move hx0 (fun hlt => hw14.block _ hlt); replace hx1 := cell_move hx1 (fun hlt => hw14.block _ hlt); replace HGS := Aside0.mk (Kd.C_below HGS.out hw14); replace HGT := Aside0.mk (Kd.C_below HGT.out hw14); replace hs0 := cell_move hs0 (fun hlt => hw14.block _ hlt); replace hs1 := cell_move hs1 (fun hlt => hw14.block _ hlt); replace ht0 := cell_move ht0 (fun hlt => hw14.block _ hlt); replace ht1 := cell_move ht1 (fun hlt => hw14.block _ hlt); replace HE := Aside0.mk (Kd.C_below HE.out hw14); replace HF := Aside0.mk (Kd.C_below HF.out hw14); replace HGA := Aside0.mk (Kd.C_below HGA.out hw14); clear hb14 hw14)
          | (go_at_call 14; have hq_ : w12 = w12 := rfl; clear hq_; (refine (greedy_C K7 a A12 c12 F s1 S2 _ (Kd.C_below HF.out (by repeat (first | (with_reducible first | exact Below.refl _ _ | apply below_alloc | apply pw_below_drewN | apply below_drew1) | exact Below.refl _ _))) HFc.out H7.out).mono ?_); rintro e w13 ⟨A13, c13, rfl, hc13, hC13, hb13⟩; have hw13 := below_step (w := w12) (by repeat (first | (with_reducible first | exact Below.refl _ _ | apply below_alloc | apply pw_below_drewN | apply below_drew1) | exact Below.refl _ _)) hb13; replace HB := Aside0.mk (below_step HB.out hw13); replace HG := Aside0.mk (Kd.C_below HG.out hw13); replace HP := Aside0.mk (Kd.C_below HP.out hw13); replace hx0 := cell_move hx0 (fun hlt => hw13.block _ hlt); replace hx1 := cell_move hx1 (fun hlt => hw13.block _ hlt); replace HGS := Aside0.mk (Kd.C_below HGS.out hw13); replace HGT := Aside0.mk (Kd.C_below HGT.out hw13); replace hs0 := cell_move hs0 (fun hlt => hw13.block _ hlt); replace hs1 := cell_move hs1 (fun hlt => hw13.block _ hlt); replace ht0 := cell_move ht0 (fun hlt => hw13.block _ hlt); replace ht1 := cell_move ht1 (fun hlt => hw13.block _ hlt); replace HE := Aside0.mk (Kd.C_below HE.out hw13); replace HF := Aside0.mk (Kd.C_below HF.out hw13); have HGA := Aside0.mk hC13; have HGAc := Aside0.mk hc13; clear hC13 hc13; clear hb13 hw13)
          | (go_at_call 26; have hq_ : w11 = w11 := rfl; clear hq_; (refine (fixing_C K6 A11 c11 E A1 c1 l1 F _ (Kd.C_below HE.out (by repeat (first | (with_reducible first | exact Below.refl _ _ | apply below_alloc | apply pw_below_drewN | apply below_drew1) | exact Below.refl _ _))) HEc.out (Kd.C_below HP.out (by repeat (first | (with_reducible first | exact Below.refl _ _ | apply below_alloc | apply pw_below_drewN | apply below_drew1) | exact Below.refl _ _))) HC1.out H6.out).mono ?_); rintro e w12 ⟨A12, c12, rfl, hc12, hC12, hb12⟩; have hw12 := below_step (w := w11) (by repeat (first | (with_reducible first | exact Below.refl _ _ | apply below_alloc | apply pw_below_drewN | apply below_drew1) | exact Below.refl _ _)) hb12; replace HB := Aside0.mk (below_step HB.out hw12); replace HG := Aside0.mk (Kd.C_below HG.out hw12); replace HP := Aside0.mk (Kd.C_below HP.out hw12); replace hx0 := cell_move hx0 (fun hlt => hw12.block _ hlt); replace hx1 := cell_move hx1 (fun hlt => hw12.block _ hlt); replace HGS := Aside0.mk (Kd.C_below HGS.out hw12); replace HGT := Aside0.mk (Kd.C_below HGT.out hw12); replace hs0 := cell_move hs0 (fun hlt => hw12.block _ hlt); replace hs1 := cell_move hs1 (fun hlt => hw12.block _ hlt); replace ht0 := cell_move ht0 (fun hlt => hw12.block _ hlt); replace ht1 := cell_move ht1 (fun hlt => hw12.block _ hlt); replace HE := Aside0.mk (Kd.C_below HE.out hw12); have HF := Aside0.mk hC12; have HFc := Aside0.mk hc12; clear hC12 hc12; clear hb12 hw12))
      all_goals
        go_wp2_with fail
        go_ret
        exact ⟨rfl, below_then (below_alloc (Below.refl _ _) _) (by simp) HB.out⟩
end Go.Proofs.YtmbldnoepjmhhaaGreat.Bs
end
section
/- PermgroupStabilizers: the law, its walk by values joined with the laws of stabilizers. -/
namespace Go.Proofs.YtmbldnoepjmhhaaGreat.Bs
open Go.RowKit Go.Proofs.YtmbldnoepjmhhaaGreatW.PrintWords Go.Proofs.YtmbldnoepjmhhaaGreatW.PrintLast Go.Proofs.YtmbldnoepjmhhaaGreatW.PrintMore Go.Proofs.YtmbldnoepjmhhaaGreat.Plain Go.Proofs.YtmbldnoepjmhhaaGreat.PBs Go.Proofs.YtmbldnoepjmhhaaGreat.PAll Go.Proofs.YtmbldnoepjmhhaaGreat.Pms Go.Proofs.YtmbldnoepjmhhaaGreat.QStab Go.Proofs.YtmbldnoepjmhhaaGreat.QFix Go.Proofs.YtmbldnoepjmhhaaGreat.QGreed Go.Proofs.YtmbldnoepjmhhaaGreat.QCl Go.Proofs.YtmbldnoepjmhhaaGreat.QPg
variable {n : Nat}
theorem outPt_bad (a : Int) : ∀ (P : List Int) (i : Nat), ¬ (∀ x ∈ P, 0 ≤ x ∧ x < a) → 0 ≤ outPt a i P
  | [], i, h => absurd (fun x hx => by cases hx) h
  | x :: r, i, h => by
    rw [outPt]
    by_cases hb : outB a x = true
    · rw [if_pos hb]; omega
    · rw [if_neg hb]
      refine outPt_bad a r (i + 1) (fun h2 => h (fun y hy => ?_))
      rcases List.mem_cons.1 hy with rfl | hy
      · unfold outB at hb
        by_cases h0 : y < 0
        · rw [if_pos h0] at hb; exact absurd rfl hb
        · rw [if_neg h0] at hb
          have h9 : ¬ y ≥ a := fun h => hb (decide_eq_true h)
          omega
      · exact h2 y hy
def onV (a : Int) (L : List (List Int)) (P : List Int) : Int := if chkG a L = 0 then ptsV a P else chkG a L
theorem on_ev (a : Int) (L : List (List Int)) (P : List Int) : Ev (fun k => permgroup_on.f k a L P) (onV a L P) := by
  refine Ev.bind (QBs.permgroup_Check.ev _ _) ?_
  unfold onV
  by_cases h0 : chkG a L = 0
  · rw [if_pos h0, h0]
    simp only [if_true]
    unfold ptsV
    by_cases hp : ∀ x ∈ P, 0 ≤ x ∧ x < a
    · rw [if_pos hp, outPt_in _ _ _ hp]
      exact Ev.now _
    · rw [if_neg hp]
      have := outPt_bad a P 0 hp
      simp only [if_pos (show outPt a 0 P ≥ 0 from this)]
      exact Ev.now _
  · rw [if_neg h0]
    simp only [if_neg h0]
    exact Ev.now _
theorem stab_bad {a : Int} {L : List (List Int)} {P : List Int} (h : onV a L P ≠ 0) : Ev (fun k => permgroup_Stabilizer.f k a L P) (0, [], onV a L P) := by
  refine Ev.bind (on_ev a L P) ?_
  simp only [if_neg h]
  exact Ev.now _
theorem set_bad {a : Int} {L : List (List Int)} {P : List Int} (h : onV a L P ≠ 0) : Ev (fun k => permgroup_SetStabilizer.f k a L P) (0, [], onV a L P) := by
  refine Ev.bind (on_ev a L P) ?_
  simp only [if_neg h]
  exact Ev.now _
theorem fixB_iff {P : List Int} (hP : ∀ x ∈ P, 0 ≤ x ∧ x < (n : Int)) (p : Pm n) : fixB p.l P = true ↔ FixP P p := by
  unfold fixB
  rw [decide_eq_true_iff]
  constructor
  · intro h x hx hm
    have := h _ hm
    rw [rd_ap p hx] at this
    omega
  · intro h x hm
    obtain ⟨h0, h1⟩ := hP x hm
    obtain ⟨y, rfl⟩ : ∃ y : Nat, x = (y : Int) := ⟨x.toNat, by omega⟩
    have := h y (by omega) hm
    rw [rd_ap p (by omega), this]
def KeepP (P : List Int) (p : Pm n) : Prop := ∀ x, x < n → (x : Int) ∈ P → ((p.ap x : Nat) : Int) ∈ P
theorem keepB_iff {P : List Int} (hP : ∀ x ∈ P, 0 ≤ x ∧ x < (n : Int)) (p : Pm n) : keepsV p.l P = true ↔ KeepP P p := by
  unfold keepsV
  rw [decide_eq_true_iff]
  constructor
  · intro h x hx hm
    have := h _ hm
    rwa [rd_ap p hx] at this
  · intro h x hm
    obtain ⟨h0, h1⟩ := hP x hm
    obtain ⟨y, rfl⟩ : ∃ y : Nat, x = (y : Int) := ⟨x.toNat, by omega⟩
    rw [rd_ap p (by omega)]
    exact h y (by omega) hm
theorem keep_gen {S F : List (Pm n)} {P : List Int} (hF : ∀ p, p ∈ F ↔ Gen S p ∧ KeepP P p) (p : Pm n) : p ∈ F ↔ Gen F p := by
  refine ⟨Gen.of, fun h => ?_⟩
  refine Gen.induct (P := fun p => p ∈ F) ?_ (fun p s hp _ hs => ?_) h
  · exact (hF 1).2 ⟨Gen.one _, fun x hx hm => by rw [Pm.one_ap hx]; exact hm⟩
  · have h1 := (hF p).1 hp
    have h2 := (hF s).1 hs
    refine (hF _).2 ⟨h1.1.mul h2.1, fun x hx hm => ?_⟩
    rw [Pm.mul_ap _ _ hx]
    exact h2.2 _ (Pm.lt p hx) (h1.2 x hx hm)
theorem elements_val (hn : n ≤ 20) (S : List (Pm n)) {E : List (Pm n)} (hE : E.Pairwise Lt) (hG : ∀ p, p ∈ E ↔ Gen S p) (hl : E.length ≤ 5040) : permgroup_elements.f (n : Int) (S.map Pm.l) = some (E.map Pm.l, 0) := by
  obtain ⟨A, F, h1, h2, e1, e2, e3, e4⟩ := grp_spec hn S
  have hEF : F = E := sorted_eq e1 hE (fun p => by rw [e2, hG])
  subst hEF
  unfold permgroup_elements.f
  rw [if_pos ⟨Int.natCast_nonneg _, by omega⟩, Int.toNat_natCast, h1, Option.bind_some, e3, if_neg (by omega), e4 (by omega), Option.bind_some]
theorem set_val (hn : n ≤ 20) (S : List (Pm n)) (hS : S.length ≤ 32) {P : List Int} (hPl : P.length ≤ 1000) (hP : ∀ x ∈ P, 0 ≤ x ∧ x < (n : Int)) {E : List (Pm n)} (hE : E.Pairwise Lt) (hG : ∀ p, p ∈ E ↔ Gen S p) (hl : E.length ≤ 5040) :
    Ev (fun k => permgroup_SetStabilizer.f k (n : Int) (S.map Pm.l) P) ((n : Int), (greedy (E.filter fun p => keepsV p.l P) []).map Pm.l, 0) := by
  refine Ev.bind (on_ev _ _ _) ?_
  have h0 : onV (n : Int) (S.map Pm.l) P = 0 := by unfold onV ptsV; rw [if_pos (chkG_Pm hn S hS), if_pos hP]
  have hb : Int.toNat (n : Int) = n := Int.toNat_natCast n
  have hEp : 0 < E.length := List.length_pos_of_mem ((hG 1).2 (Gen.one _))
  have hcond : 0 < (E.map Pm.l).length ∧ (E.map Pm.l).length ≤ 100000 ∧ ∀ p ∈ E.map Pm.l, (p.length : Int) = (n : Int) := by
    refine ⟨by rw [List.length_map]; exact hEp, by rw [List.length_map]; omega, fun p hp => ?_⟩
    obtain ⟨q, _, rfl⟩ := List.mem_map.1 hp
    rw [q.len]
  have hfil : (E.map Pm.l).filter (fun p => keepsV p P) = (E.filter fun p => keepsV p.l P).map Pm.l := by rw [List.filter_map]; rfl
  have hred := reduced_spec hn (T := E.filter fun p => keepsV p.l P) (E := E.filter fun p => keepsV p.l P) ((sorted_nodup hE).filter _) (fun p => keep_gen (S := S) (P := P) (fun p => by rw [List.mem_filter, hG, keepB_iff hP]) p)
  refine Ev.step (f := fun _ => some ((n : Int), (greedy (E.filter fun p => keepsV p.l P) []).map Pm.l, 0)) (fun k => ?_) (Ev.now _)
  simp only [h0, if_true]
  rw [if_pos ⟨Int.natCast_nonneg _, by omega, hPl, hP⟩, elements_val hn S hE hG hl, Option.bind_some]
  simp only [if_true]
  rw [if_pos hcond, hfil, hb, hred]
  rfl
theorem none_zero : PPg.galoislaw23_none.f 0 [] = some true := rfl
theorem stabs_law (a : Int) (A0_1 : Option Addr) (c0_1 : Nat) (L : List (List Int)) (A1 : Option Addr) (c1 : Nat) (l1 : List Int) (w : World) (hr0_1 : Kd.C (Kd.slice 3 (Kd.int .i64)) w A0_1 L.length L) (hc0_1 : L.length ≤ c0_1) (hr1 : Kd.C (Kd.int .i64) w A1 l1.length l1) (hc1 : l1.length ≤ c1) :
    Calls Tryz.prog 4 #[.agg #[.int .i64 a, .slice A0_1 L.length c0_1], .slice A1 l1.length c1] w fun e w' => e = .returned (.bool true) ∧ Below w.heap.size w w' := by
  obtain ⟨b, ⟨K1, hb⟩, hfit⟩ := large_ev a L
  have h1 := hb K1 (Nat.le_refl _)
  cases b with
  | true => exact stabs_large a A0_1 c0_1 L A1 c1 l1 w hr0_1 hc0_1 hr1 hc1 K1 h1
  | false =>
  by_cases hl : 20 < l1.length
  · exact stabs_long a A0_1 c0_1 L A1 c1 l1 w hr0_1 hc0_1 hr1 hc1 K1 h1 hl
  obtain ⟨K4, hp⟩ := points_ev a L l1 (by omega)
  have h4 := hp K4 (Nat.le_refl _)
  by_cases hw : onV a L l1 = 0
  · have h0 : chkG a L = 0 := by
      by_cases h0 : chkG a L = 0
      · exact h0
      · unfold onV at hw; rw [if_neg h0] at hw; exact absurd hw h0
    have hP : ∀ x ∈ l1, 0 ≤ x ∧ x < a := by
      by_cases hP : ∀ x ∈ l1, 0 ≤ x ∧ x < a
      · exact hP
      · unfold onV ptsV at hw; rw [if_pos h0, if_neg hP] at hw; exact absurd hw (by decide)
    obtain ⟨n, S, E, fit⟩ := hfit rfl h0
    obtain ⟨rfl, hn, rfl, hS, hE, hG, hfew⟩ := fit
    have hpl : ∀ p ∈ E.map Pm.l, (p.length : Int) = (n : Int) := fun p hp => by
      obtain ⟨q, _, rfl⟩ := List.mem_map.1 hp
      rw [q.len]
    have hF : ∀ p, p ∈ (E.filter fun p => fixB p.l l1) ↔ Gen S p ∧ FixP l1 p := fun p => by rw [List.mem_filter, hG, fixB_iff hP]
    have hK : ∀ p, p ∈ (E.filter fun p => keepsV p.l l1) ↔ Gen S p ∧ KeepP l1 p := fun p => by rw [List.mem_filter, hG, keepB_iff hP]
    have hFs : (E.filter fun p => fixB p.l l1).Pairwise Lt := hE.filter _
    have hKs : (E.filter fun p => keepsV p.l l1).Pairwise Lt := hE.filter _
    have hFl : (E.filter fun p => fixB p.l l1).length ≤ 240 := Nat.le_trans (List.length_filter_le _ _) hfew
    have hKl : (E.filter fun p => keepsV p.l l1).length ≤ 240 := Nat.le_trans (List.length_filter_le _ _) hfew
    have hfil1 : (E.map Pm.l).filter (fun p => fixB p l1) = (E.filter fun p => fixB p.l l1).map Pm.l := by rw [List.filter_map]; rfl
    have hfil2 : (E.map Pm.l).filter (fun p => keepsV p l1) = (E.filter fun p => keepsV p.l l1).map Pm.l := by rw [List.filter_map]; rfl
    obtain ⟨T, _, _, hTG⟩ := fix_spec hn S hS l1
    have hFT : ∀ p, p ∈ (E.filter fun p => fixB p.l l1) ↔ Gen T p := fun p => by rw [hF, hTG]
    obtain ⟨K2, h2⟩ := stab_val hn S hS (by omega) hP hFs hF (by omega)
    obtain ⟨K3, h3⟩ := set_val hn S hS (P := l1) (by omega) hP hE hG (by omega)
    obtain ⟨K5, h5⟩ := elementsP hn hE hG
    have h5' := h5 K5 (Nat.le_refl _)
    unfold closeR at h5'
    rw [if_pos hfew] at h5'
    obtain ⟨K6, h6⟩ := fix_ev (a := (n : Int)) (all := E.map Pm.l) hP (by omega) (by rw [List.length_map]; omega) hpl
    obtain ⟨K9, h9⟩ := keep_ev (a := (n : Int)) (all := E.map Pm.l) hP (by omega) (by rw [List.length_map]; omega) hpl
    rw [hfil1] at h6
    rw [hfil2] at h9
    obtain ⟨K7, h7⟩ := greedyP hn hFs hFT hFl
    obtain ⟨K10, h10⟩ := greedyP hn hKs (keep_gen hK) hKl
    obtain ⟨K8, h8⟩ := equalP hn (n : Int) (greedy (E.filter fun p => fixB p.l l1) []) (Nat.lt_of_le_of_lt (greedy_short hn (sorted_nodup hFs) hFT (by omega)) (by decide))
    obtain ⟨K11, h11⟩ := equalP hn (n : Int) (greedy (E.filter fun p => keepsV p.l l1) []) (Nat.lt_of_le_of_lt (greedy_short hn (sorted_nodup hKs) (keep_gen hK) (by omega)) (by decide))
    rw [show (if chkG (n : Int) (S.map Pm.l) = 0 then ptsV (n : Int) l1 else chkG (n : Int) (S.map Pm.l)) = 0 from hw] at h4
    exact stabs_ok (n : Int) A0_1 c0_1 _ A1 c1 l1 w hr0_1 hc0_1 hr1 hc1 K1 h1 (by omega) K2 K3 K4 _ _ _ _ (h2 K2 (Nat.le_refl _)) (h3 K3 (Nat.le_refl _)) h4 _ _ _ K5 K6 K7 K8 K9 K10 K11 h5' (h6 K6 (Nat.le_refl _)) (h7 K7 (Nat.le_refl _)) (h8 K8 (Nat.le_refl _)) (h9 K9 (Nat.le_refl _)) (h10 K10 (Nat.le_refl _)) (h11 K11 (Nat.le_refl _))
  · obtain ⟨K2, h2⟩ := stab_bad hw
    obtain ⟨K3, h3⟩ := set_bad hw
    exact stabs_bad a A0_1 c0_1 L A1 c1 l1 w hr0_1 hc0_1 hr1 hc1 K1 h1 (by omega) K2 K3 K4 0 0 (onV a L l1) [] [] (h2 K2 (Nat.le_refl _)) (h3 K3 (Nat.le_refl _)) h4 hw none_zero none_zero
def galoislaw23_PermgroupStabilizers.f (k : Nat) (a0_0 : Int) (l0_1 : List (List Int)) (l1 : List Int) : Option Bool := some true
theorem galoislaw23_PermgroupStabilizers.mono : ∀ a0_0 l0_1 l1 k, LeO (galoislaw23_PermgroupStabilizers.f k a0_0 l0_1 l1) (galoislaw23_PermgroupStabilizers.f (k + 1) a0_0 l0_1 l1) := fun _ _ _ _ => LeO.refl _
theorem galoislaw23_PermgroupStabilizers.calls (k : Nat) (a0_0 : Int) (A0_1 : Option Addr) (c0_1 : Nat) (l0_1 : List (List Int)) (A1 : Option Addr) (c1 : Nat) (l1 : List Int) (r : Bool) (w : World) (hr0_1 : Kd.C (Kd.slice 3 (Kd.int .i64)) w A0_1 l0_1.length l0_1) (hc0_1 : l0_1.length ≤ c0_1) (hr1 : Kd.C (Kd.int .i64) w A1 l1.length l1) (hc1 : l1.length ≤ c1) (h : galoislaw23_PermgroupStabilizers.f k a0_0 l0_1 l1 = some r) :
    Calls Tryz.prog 4 #[.agg #[.int .i64 a0_0, .slice A0_1 l0_1.length c0_1], .slice A1 l1.length c1] w fun e w' => e = .returned (.bool r) ∧ Below w.heap.size w w' := by
  obtain rfl := Option.some.inj h
  exact stabs_law a0_0 A0_1 c0_1 l0_1 A1 c1 l1 w hr0_1 hc0_1 hr1 hc1
end Go.Proofs.YtmbldnoepjmhhaaGreat.Bs
end
