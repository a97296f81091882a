/- Texts of this claim put together (wip/tools/merge.py). -/
import Derived.Test.YtmbldnoepjmhhaaGreatZPermgroupPairsMg0
import Derived.Test.YtmbldnoepjmhhaaGreatZPermgroupPairsMg6
import Derived.Test.YtmbldnoepjmhhaaGreatZPermgroupPairsPGrx0
import Derived.Test.YtmbldnoepjmhhaaGreatZPermgroupPairsPGrx1
import Derived.Test.YtmbldnoepjmhhaaGreatZPermgroupPairsMg2
import Derived.Test.YtmbldnoepjmhhaaGreatZPermgroupPairsMg1
import Derived.WalkMore
import Derived.Test.YtmbldnoepjmhhaaGreatZPermgroupPairsMg4
import Derived.Test.YtmbldnoepjmhhaaGreatZPermgroupPairsBsMeet
import Derived.Test.YtmbldnoepjmhhaaGreatZPermgroupPairsPPrx0
import Derived.Test.YtmbldnoepjmhhaaGreatZPermgroupPairsPPrx1
import Derived.Deep.RegionHeld3
import Derived.Deep.RegionLaw
import Derived.Test.YtmbldnoepjmhhaaGreatZPermgroupPairsMg5
set_option linter.unusedVariables false
set_option linter.unusedSimpArgs false
section
/- The walk of PermgroupStabilizers, by values. -/
namespace Go.Proofs.YtmbldnoepjmhhaaGreat.Bs
open Go.RowKit Go.Proofs.YtmbldnoepjmhhaaGreatW.PrintWords Go.Proofs.YtmbldnoepjmhhaaGreatW.PrintLast Go.Proofs.YtmbldnoepjmhhaaGreatW.PrintMore Go.Proofs.YtmbldnoepjmhhaaGreat.Plain Go.Proofs.YtmbldnoepjmhhaaGreat.PBs Go.Proofs.YtmbldnoepjmhhaaGreat.PAll
theorem C_V {α : Type} {d : Kd α} (hd : Kd.Heap d) {e base c : Nat} {w : World} {A : Option Addr} {xs : List α} (h : Kd.C d w A xs.length xs) (hc : xs.length ≤ c) : Kd.V d e w base (fun k => k < w.heap.size) (.slice A xs.length c) xs := Kd.V_mk hc (Kd.C_F hd h)
theorem heapP : Kd.Heap (Kd.slice 3 (Kd.int .i64)) := Kd.heap_slice 3 (Kd.heap_int .i64)
theorem greedy_C (k : Nat) (a : Int) (A0 : Option Addr) (c0 : Nat) (l0 : List (List Int)) (r1 : Int) (r : List (List Int)) (w : World) (h0 : Kd.C (Kd.slice 3 (Kd.int .i64)) w A0 l0.length l0) (hc0 : l0.length ≤ c0) (h : PGr.galoisref23_Greedy.f k a l0 = some (r1, r)) :
    Calls Tryz.prog 14 #[.int .i64 a, .slice A0 l0.length c0] w fun e w' => ∃ A c, e = .returned (.agg #[.int .i64 r1, .slice A r.length c]) ∧ r.length ≤ c ∧ Kd.C (Kd.slice 3 (Kd.int .i64)) w' A r.length r ∧ Below w.heap.size w w' := by
  refine (PGr.galoisref23_Greedy.calls k a _ A0 c0 l0 r1 r w (C_V heapP h0 hc0) h).mono ?_
  rintro e w' ⟨v, rfl, hn, hb⟩
  have hv := Kd.N_V (base' := 0) hn
  obtain ⟨A, c, rfl⟩ := Kd.V_slice hv
  exact ⟨A, c, rfl, (Kd.V_reads' hv).2.1, (Kd.V_reads' hv).2.2, hb⟩
end Go.Proofs.YtmbldnoepjmhhaaGreat.Bs
end
section
/- The walk of PermgroupPairs, by values: the guards, and the way with an error. -/
namespace Go.Proofs.YtmbldnoepjmhhaaGreat.Bs
open Go.RowKit Go.Proofs.YtmbldnoepjmhhaaGreatW.PrintWords Go.Proofs.YtmbldnoepjmhhaaGreatW.PrintLast Go.Proofs.YtmbldnoepjmhhaaGreatW.PrintMore Go.Proofs.YtmbldnoepjmhhaaGreat.Plain Go.Proofs.YtmbldnoepjmhhaaGreat.PBs Go.Proofs.YtmbldnoepjmhhaaGreat.PAll
set_option maxHeartbeats 16000000 in
set_option maxRecDepth 100000 in
theorem pairs_large (a b : Int) (A0 : Option Addr) (c0 : Nat) (L : List (List Int)) (B0 : Option Addr) (d0 : Nat) (M : List (List Int)) (w : World) (hg : Kd.C (Kd.slice 3 (Kd.int .i64)) w A0 L.length L) (hgc : L.length ≤ c0) (hh : Kd.C (Kd.slice 3 (Kd.int .i64)) w B0 M.length M) (hhc : M.length ≤ d0) (K1 : Nat) (h1 : PPg.galoislaw23_large.f K1 a L = some true) : Calls Tryz.prog 5 #[.agg #[.int .i64 a, .slice A0 L.length c0], .agg #[.int .i64 b, .slice B0 M.length d0]] w fun e w' => e = .returned (.bool true) ∧ Below w.heap.size w w' := by
  have H1 := Aside0.mk h1
  clear h1
  have hu := Tryz.underlying24
  have HB : Aside0 (Below ((w.alloc (.cells #[.int .i64 a, .slice A0 L.length c0] 24)).alloc (.cells #[.int .i64 b, .slice B0 M.length d0] 24)).heap.size ((w.alloc (.cells #[.int .i64 a, .slice A0 L.length c0] 24)).alloc (.cells #[.int .i64 b, .slice B0 M.length d0] 24)) ((w.alloc (.cells #[.int .i64 a, .slice A0 L.length c0] 24)).alloc (.cells #[.int .i64 b, .slice B0 M.length d0] 24))) := ⟨Below.refl _ _⟩
  have HGc := Aside0.mk hgc
  have HHc := Aside0.mk hhc
  have HBW : Aside0 (Below w.heap.size w ((w.alloc (.cells #[.int .i64 a, .slice A0 L.length c0] 24)).alloc (.cells #[.int .i64 b, .slice B0 M.length d0] 24))) := ⟨below_alloc (below_alloc (Below.refl _ _) _) _⟩
  have HG := Aside0.mk (Kd.C_below hg HBW.out)
  have HH := Aside0.mk (Kd.C_below hh HBW.out)
  have hx0 : ((w.alloc (.cells #[.int .i64 a, .slice A0 L.length c0] 24)).alloc (.cells #[.int .i64 b, .slice B0 M.length d0] 24)).cell? ⟨w.heap.size, 0, none⟩ = some (.int .i64 a) := by rw [World.cell?_alloc_past _ _ _ (by simp), World.cell?_alloc_at _ _ _ _ rfl]; rfl
  have hx1 : ((w.alloc (.cells #[.int .i64 a, .slice A0 L.length c0] 24)).alloc (.cells #[.int .i64 b, .slice B0 M.length d0] 24)).cell? ⟨w.heap.size, 1, none⟩ = some (.slice A0 L.length c0) := by rw [World.cell?_alloc_past _ _ _ (by simp), World.cell?_alloc_at _ _ _ _ rfl]; rfl
  have hy0 : ((w.alloc (.cells #[.int .i64 a, .slice A0 L.length c0] 24)).alloc (.cells #[.int .i64 b, .slice B0 M.length d0] 24)).cell? ⟨w.heap.size + 1, 0, none⟩ = some (.int .i64 b) := by rw [World.cell?_alloc_at _ _ _ _ (by simp)]; rfl
  have hy1 : ((w.alloc (.cells #[.int .i64 a, .slice A0 L.length c0] 24)).alloc (.cells #[.int .i64 b, .slice B0 M.length d0] 24)).cell? ⟨w.heap.size + 1, 1, none⟩ = some (.slice B0 M.length d0) := by rw [World.cell?_alloc_at _ _ _ _ (by simp)]; rfl
  clear hg hgc hh hhc
  go_enter Tryz.func5, Tryz.ntmps5
  go_wp2_with (first
    | (go_at_call 19; have hq_ : w2 = w2 := rfl; clear hq_; (refine (galoislaw23_awake.calls true _ rfl).mono ?_); rintro e w3 ⟨rfl, hb3⟩; have hw3 := below_step (w := w2) bel0 hb3; replace HB := Aside0.mk (below_step HB.out hw3); replace HG := Aside0.mk (Kd.C_below HG.out hw3); replace HH := Aside0.mk (Kd.C_below HH.out hw3); replace hx0 := cell_move hx0 (fun hlt => hw3.block _ hlt); replace hx1 := cell_move hx1 (fun hlt => hw3.block _ hlt); replace hy0 := cell_move hy0 (fun hlt => hw3.block _ hlt); replace hy1 := cell_move hy1 (fun hlt => hw3.block _ hlt); clear hb3 hw3)
    | (go_at_call 20; have hq_ : w1 = w1 := rfl; clear hq_; (refine (PPg.galoislaw23_large.calls K1 a A0 c0 L true _ (Kd.C_below HG.out bel0) HGc.out H1.out).mono ?_); rintro e w2 ⟨rfl, hb2⟩; have hw2 := below_step (w := w1) bel0 hb2; replace HB := Aside0.mk (below_step HB.out hw2); replace HG := Aside0.mk (Kd.C_below HG.out hw2); replace HH := Aside0.mk (Kd.C_below HH.out hw2); replace hx0 := cell_move hx0 (fun hlt => hw2.block _ hlt); replace hx1 := cell_move hx1 (fun hlt => hw2.block _ hlt); replace hy0 := cell_move hy0 (fun hlt => hw2.block _ hlt); replace hy1 := cell_move hy1 (fun hlt => hw2.block _ hlt); clear hb2 hw2)
    | (go_at_call 19; (refine (galoislaw23_awake.calls true _ rfl).mono ?_); rintro e w1 ⟨rfl, hb1⟩; have hw1 := below_step (w := ((w.alloc (.cells #[.int .i64 a, .slice A0 L.length c0] 24)).alloc (.cells #[.int .i64 b, .slice B0 M.length d0] 24))) bel0 hb1; replace HB := Aside0.mk (below_step HB.out hw1); replace HG := Aside0.mk (Kd.C_below HG.out hw1); replace HH := Aside0.mk (Kd.C_below HH.out hw1); replace hx0 := cell_move hx0 (fun hlt => hw1.block _ hlt); replace hx1 := cell_move hx1 (fun hlt => hw1.block _ hlt); replace hy0 := cell_move hy0 (fun hlt => hw1.block _ hlt); replace hy1 := cell_move hy1 (fun hlt => hw1.block _ hlt); clear hb1 hw1))
  go_ret
  exact ⟨rfl, below_then (below_alloc (below_alloc (Below.refl _ _) _) _) (by simp; omega) HB.out⟩
set_option maxHeartbeats 16000000 in
set_option maxRecDepth 100000 in
theorem pairs_large2 (a b : Int) (A0 : Option Addr) (c0 : Nat) (L : List (List Int)) (B0 : Option Addr) (d0 : Nat) (M : List (List Int)) (w : World) (hg : Kd.C (Kd.slice 3 (Kd.int .i64)) w A0 L.length L) (hgc : L.length ≤ c0) (hh : Kd.C (Kd.slice 3 (Kd.int .i64)) w B0 M.length M) (hhc : M.length ≤ d0) (K1 K2 : Nat) (h1 : PPg.galoislaw23_large.f K1 a L = some false) (h2 : PPg.galoislaw23_large.f K2 b M = some true) : Calls Tryz.prog 5 #[.agg #[.int .i64 a, .slice A0 L.length c0], .agg #[.int .i64 b, .slice B0 M.length d0]] w fun e w' => e = .returned (.bool true) ∧ Below w.heap.size w w' := by
  have H1 := Aside0.mk h1
  have H2 := Aside0.mk h2
  clear h1 h2
  have hu := Tryz.underlying24
  have HB : Aside0 (Below ((w.alloc (.cells #[.int .i64 a, .slice A0 L.length c0] 24)).alloc (.cells #[.int .i64 b, .slice B0 M.length d0] 24)).heap.size ((w.alloc (.cells #[.int .i64 a, .slice A0 L.length c0] 24)).alloc (.cells #[.int .i64 b, .slice B0 M.length d0] 24)) ((w.alloc (.cells #[.int .i64 a, .slice A0 L.length c0] 24)).alloc (.cells #[.int .i64 b, .slice B0 M.length d0] 24))) := ⟨Below.refl _ _⟩
  have HGc := Aside0.mk hgc
  have HHc := Aside0.mk hhc
  have HBW : Aside0 (Below w.heap.size w ((w.alloc (.cells #[.int .i64 a, .slice A0 L.length c0] 24)).alloc (.cells #[.int .i64 b, .slice B0 M.length d0] 24))) := ⟨below_alloc (below_alloc (Below.refl _ _) _) _⟩
  have HG := Aside0.mk (Kd.C_below hg HBW.out)
  have HH := Aside0.mk (Kd.C_below hh HBW.out)
  have hx0 : ((w.alloc (.cells #[.int .i64 a, .slice A0 L.length c0] 24)).alloc (.cells #[.int .i64 b, .slice B0 M.length d0] 24)).cell? ⟨w.heap.size, 0, none⟩ = some (.int .i64 a) := by rw [World.cell?_alloc_past _ _ _ (by simp), World.cell?_alloc_at _ _ _ _ rfl]; rfl
  have hx1 : ((w.alloc (.cells #[.int .i64 a, .slice A0 L.length c0] 24)).alloc (.cells #[.int .i64 b, .slice B0 M.length d0] 24)).cell? ⟨w.heap.size, 1, none⟩ = some (.slice A0 L.length c0) := by rw [World.cell?_alloc_past _ _ _ (by simp), World.cell?_alloc_at _ _ _ _ rfl]; rfl
  have hy0 : ((w.alloc (.cells #[.int .i64 a, .slice A0 L.length c0] 24)).alloc (.cells #[.int .i64 b, .slice B0 M.length d0] 24)).cell? ⟨w.heap.size + 1, 0, none⟩ = some (.int .i64 b) := by rw [World.cell?_alloc_at _ _ _ _ (by simp)]; rfl
  have hy1 : ((w.alloc (.cells #[.int .i64 a, .slice A0 L.length c0] 24)).alloc (.cells #[.int .i64 b, .slice B0 M.length d0] 24)).cell? ⟨w.heap.size + 1, 1, none⟩ = some (.slice B0 M.length d0) := by rw [World.cell?_alloc_at _ _ _ _ (by simp)]; rfl
  clear hg hgc hh hhc
  go_enter Tryz.func5, Tryz.ntmps5
  go_wp2_with (first
    | (go_at_call 19; have hq_ : w3 = w3 := rfl; clear hq_; (refine (galoislaw23_awake.calls true _ rfl).mono ?_); rintro e w4 ⟨rfl, hb4⟩; have hw4 := below_step (w := w3) bel0 hb4; replace HB := Aside0.mk (below_step HB.out hw4); replace HG := Aside0.mk (Kd.C_below HG.out hw4); replace HH := Aside0.mk (Kd.C_below HH.out hw4); replace hx0 := cell_move hx0 (fun hlt => hw4.block _ hlt); replace hx1 := cell_move hx1 (fun hlt => hw4.block _ hlt); replace hy0 := cell_move hy0 (fun hlt => hw4.block _ hlt); replace hy1 := cell_move hy1 (fun hlt => hw4.block _ hlt); clear hb4 hw4)
    | (go_at_call 20; have hq_ : w2 = w2 := rfl; clear hq_; (refine (PPg.galoislaw23_large.calls K2 b B0 d0 M true _ (Kd.C_below HH.out bel0) HHc.out H2.out).mono ?_); rintro e w3 ⟨rfl, hb3⟩; have hw3 := below_step (w := w2) bel0 hb3; replace HB := Aside0.mk (below_step HB.out hw3); replace HG := Aside0.mk (Kd.C_below HG.out hw3); replace HH := Aside0.mk (Kd.C_below HH.out hw3); replace hx0 := cell_move hx0 (fun hlt => hw3.block _ hlt); replace hx1 := cell_move hx1 (fun hlt => hw3.block _ hlt); replace hy0 := cell_move hy0 (fun hlt => hw3.block _ hlt); replace hy1 := cell_move hy1 (fun hlt => hw3.block _ hlt); clear hb3 hw3)
    | (go_at_call 20; have hq_ : w1 = w1 := rfl; clear hq_; (refine (PPg.galoislaw23_large.calls K1 a A0 c0 L false _ (Kd.C_below HG.out bel0) HGc.out H1.out).mono ?_); rintro e w2 ⟨rfl, hb2⟩; have hw2 := below_step (w := w1) bel0 hb2; replace HB := Aside0.mk (below_step HB.out hw2); replace HG := Aside0.mk (Kd.C_below HG.out hw2); replace HH := Aside0.mk (Kd.C_below HH.out hw2); replace hx0 := cell_move hx0 (fun hlt => hw2.block _ hlt); replace hx1 := cell_move hx1 (fun hlt => hw2.block _ hlt); replace hy0 := cell_move hy0 (fun hlt => hw2.block _ hlt); replace hy1 := cell_move hy1 (fun hlt => hw2.block _ hlt); clear hb2 hw2)
    | (go_at_call 19; (refine (galoislaw23_awake.calls true _ rfl).mono ?_); rintro e w1 ⟨rfl, hb1⟩; have hw1 := below_step (w := ((w.alloc (.cells #[.int .i64 a, .slice A0 L.length c0] 24)).alloc (.cells #[.int .i64 b, .slice B0 M.length d0] 24))) bel0 hb1; replace HB := Aside0.mk (below_step HB.out hw1); replace HG := Aside0.mk (Kd.C_below HG.out hw1); replace HH := Aside0.mk (Kd.C_below HH.out hw1); replace hx0 := cell_move hx0 (fun hlt => hw1.block _ hlt); replace hx1 := cell_move hx1 (fun hlt => hw1.block _ hlt); replace hy0 := cell_move hy0 (fun hlt => hw1.block _ hlt); replace hy1 := cell_move hy1 (fun hlt => hw1.block _ hlt); clear hb1 hw1))
  go_ret
  exact ⟨rfl, below_then (below_alloc (below_alloc (Below.refl _ _) _) _) (by simp; omega) HB.out⟩
set_option maxHeartbeats 16000000 in
set_option maxRecDepth 100000 in
theorem pairs_bad (a b : Int) (A0 : Option Addr) (c0 : Nat) (L : List (List Int)) (B0 : Option Addr) (d0 : Nat) (M : List (List Int)) (w : World) (hg : Kd.C (Kd.slice 3 (Kd.int .i64)) w A0 L.length L) (hgc : L.length ≤ c0) (hh : Kd.C (Kd.slice 3 (Kd.int .i64)) w B0 M.length M) (hhc : M.length ≤ d0) (K1 K2 K3 K4 K5 K6 K7 : Nat) (h1 : PPg.galoislaw23_large.f K1 a L = some false) (h2 : PPg.galoislaw23_large.f K2 b M = some false) (wv ve j1 m1 : Int) (J2 M2 : List (List Int)) (h3 : PPr.permgroup_IsSubgroup.f K3 b M a L = some (false, wv)) (h4 : PPr.permgroup_Same.f K4 a L b M = some (false, ve)) (h5 : permgroup_Join.f K5 a L b M = some (j1, J2, ve)) (h6 : permgroup_Meet.f K6 a L b M = some (m1, M2, ve)) (h7 : PRf.galoisref23_Two.f K7 b M a L = some wv) (K8 : Nat) (h8 : PRf.galoisref23_Two.f K8 a L b M = some ve) (hw : wv ≠ 0) (h9 : PPg.galoislaw23_none.f j1 J2 = some true) (h10 : PPg.galoislaw23_none.f m1 M2 = some true) : Calls Tryz.prog 5 #[.agg #[.int .i64 a, .slice A0 L.length c0], .agg #[.int .i64 b, .slice B0 M.length d0]] w fun e w' => e = .returned (.bool true) ∧ Below w.heap.size w w' := by
  have H8 := Aside0.mk h8
  have H9 := Aside0.mk h9
  have H10 := Aside0.mk h10
  have q3 : (wv == 0) = false := beq_eq_false_iff_ne.mpr hw
  have q4 : (wv != 0) = true := bne_iff_ne.mpr hw
  clear h8 h9 h10 hw
  have H1 := Aside0.mk h1
  have H2 := Aside0.mk h2
  have H3 := Aside0.mk h3
  have H4 := Aside0.mk h4
  have H5 := Aside0.mk h5
  have H6 := Aside0.mk h6
  have H7 := Aside0.mk h7
  clear h1 h2 h3 h4 h5 h6 h7
  have hu := Tryz.underlying24
  have HB : Aside0 (Below ((w.alloc (.cells #[.int .i64 a, .slice A0 L.length c0] 24)).alloc (.cells #[.int .i64 b, .slice B0 M.length d0] 24)).heap.size ((w.alloc (.cells #[.int .i64 a, .slice A0 L.length c0] 24)).alloc (.cells #[.int .i64 b, .slice B0 M.length d0] 24)) ((w.alloc (.cells #[.int .i64 a, .slice A0 L.length c0] 24)).alloc (.cells #[.int .i64 b, .slice B0 M.length d0] 24))) := ⟨Below.refl _ _⟩
  have HGc := Aside0.mk hgc
  have HHc := Aside0.mk hhc
  have HBW : Aside0 (Below w.heap.size w ((w.alloc (.cells #[.int .i64 a, .slice A0 L.length c0] 24)).alloc (.cells #[.int .i64 b, .slice B0 M.length d0] 24))) := ⟨below_alloc (below_alloc (Below.refl _ _) _) _⟩
  have HG := Aside0.mk (Kd.C_below hg HBW.out)
  have HH := Aside0.mk (Kd.C_below hh HBW.out)
  have hx0 : ((w.alloc (.cells #[.int .i64 a, .slice A0 L.length c0] 24)).alloc (.cells #[.int .i64 b, .slice B0 M.length d0] 24)).cell? ⟨w.heap.size, 0, none⟩ = some (.int .i64 a) := by rw [World.cell?_alloc_past _ _ _ (by simp), World.cell?_alloc_at _ _ _ _ rfl]; rfl
  have hx1 : ((w.alloc (.cells #[.int .i64 a, .slice A0 L.length c0] 24)).alloc (.cells #[.int .i64 b, .slice B0 M.length d0] 24)).cell? ⟨w.heap.size, 1, none⟩ = some (.slice A0 L.length c0) := by rw [World.cell?_alloc_past _ _ _ (by simp), World.cell?_alloc_at _ _ _ _ rfl]; rfl
  have hy0 : ((w.alloc (.cells #[.int .i64 a, .slice A0 L.length c0] 24)).alloc (.cells #[.int .i64 b, .slice B0 M.length d0] 24)).cell? ⟨w.heap.size + 1, 0, none⟩ = some (.int .i64 b) := by rw [World.cell?_alloc_at _ _ _ _ (by simp)]; rfl
  have hy1 : ((w.alloc (.cells #[.int .i64 a, .slice A0 L.length c0] 24)).alloc (.cells #[.int .i64 b, .slice B0 M.length d0] 24)).cell? ⟨w.heap.size + 1, 1, none⟩ = some (.slice B0 M.length d0) := by rw [World.cell?_alloc_at _ _ _ _ (by simp)]; rfl
  clear hg hgc hh hhc
  go_enter Tryz.func5, Tryz.ntmps5
  go_upto_region 5 with (first
    | (go_at_call 29; have hq_ : w4 = w4 := rfl; clear hq_; (refine (PPr.permgroup_Same.calls K4 a A0 c0 L b B0 d0 M false ve _ (Kd.C_below HG.out bel0) HGc.out (Kd.C_below HH.out bel0) HHc.out H4.out).mono ?_); rintro e w5 ⟨rfl, hb5⟩; have hw5 := below_step (w := w4) bel0 hb5; replace HB := Aside0.mk (below_step HB.out hw5); replace HG := Aside0.mk (Kd.C_below HG.out hw5); replace HH := Aside0.mk (Kd.C_below HH.out hw5); replace hx0 := cell_move hx0 (fun hlt => hw5.block _ hlt); replace hx1 := cell_move hx1 (fun hlt => hw5.block _ hlt); replace hy0 := cell_move hy0 (fun hlt => hw5.block _ hlt); replace hy1 := cell_move hy1 (fun hlt => hw5.block _ hlt); clear hb5 hw5)
    | (go_at_call 28; have hq_ : w3 = w3 := rfl; clear hq_; (refine (PPr.permgroup_IsSubgroup.calls K3 b B0 d0 M a A0 c0 L false wv _ (Kd.C_below HH.out bel0) HHc.out (Kd.C_below HG.out bel0) HGc.out H3.out).mono ?_); rintro e w4 ⟨rfl, hb4⟩; have hw4 := below_step (w := w3) bel0 hb4; replace HB := Aside0.mk (below_step HB.out hw4); replace HG := Aside0.mk (Kd.C_below HG.out hw4); replace HH := Aside0.mk (Kd.C_below HH.out hw4); replace hx0 := cell_move hx0 (fun hlt => hw4.block _ hlt); replace hx1 := cell_move hx1 (fun hlt => hw4.block _ hlt); replace hy0 := cell_move hy0 (fun hlt => hw4.block _ hlt); replace hy1 := cell_move hy1 (fun hlt => hw4.block _ hlt); clear hb4 hw4)
    | (go_at_call 20; have hq_ : w2 = w2 := rfl; clear hq_; (refine (PPg.galoislaw23_large.calls K2 b B0 d0 M false _ (Kd.C_below HH.out bel0) HHc.out H2.out).mono ?_); rintro e w3 ⟨rfl, hb3⟩; have hw3 := below_step (w := w2) bel0 hb3; replace HB := Aside0.mk (below_step HB.out hw3); replace HG := Aside0.mk (Kd.C_below HG.out hw3); replace HH := Aside0.mk (Kd.C_below HH.out hw3); replace hx0 := cell_move hx0 (fun hlt => hw3.block _ hlt); replace hx1 := cell_move hx1 (fun hlt => hw3.block _ hlt); replace hy0 := cell_move hy0 (fun hlt => hw3.block _ hlt); replace hy1 := cell_move hy1 (fun hlt => hw3.block _ hlt); clear hb3 hw3)
    | (go_at_call 20; have hq_ : w1 = w1 := rfl; clear hq_; (refine (PPg.galoislaw23_large.calls K1 a A0 c0 L false _ (Kd.C_below HG.out bel0) HGc.out H1.out).mono ?_); rintro e w2 ⟨rfl, hb2⟩; have hw2 := below_step (w := w1) bel0 hb2; replace HB := Aside0.mk (below_step HB.out hw2); replace HG := Aside0.mk (Kd.C_below HG.out hw2); replace HH := Aside0.mk (Kd.C_below HH.out hw2); replace hx0 := cell_move hx0 (fun hlt => hw2.block _ hlt); replace hx1 := cell_move hx1 (fun hlt => hw2.block _ hlt); replace hy0 := cell_move hy0 (fun hlt => hw2.block _ hlt); replace hy1 := cell_move hy1 (fun hlt => hw2.block _ hlt); clear hb2 hw2)
    | (go_at_call 19; (refine (galoislaw23_awake.calls true _ rfl).mono ?_); rintro e w1 ⟨rfl, hb1⟩; have hw1 := below_step (w := ((w.alloc (.cells #[.int .i64 a, .slice A0 L.length c0] 24)).alloc (.cells #[.int .i64 b, .slice B0 M.length d0] 24))) bel0 hb1; replace HB := Aside0.mk (below_step HB.out hw1); replace HG := Aside0.mk (Kd.C_below HG.out hw1); replace HH := Aside0.mk (Kd.C_below HH.out hw1); replace hx0 := cell_move hx0 (fun hlt => hw1.block _ hlt); replace hx1 := cell_move hx1 (fun hlt => hw1.block _ hlt); replace hy0 := cell_move hy0 (fun hlt => hw1.block _ hlt); replace hy1 := cell_move hy1 (fun hlt => hw1.block _ hlt); clear hb1 hw1))
  go_cut [9, 10] (fun v5 v6 wx => ∃ (sb : Nat) (A : Option Addr) (c : Nat), v5 = .pointer (some ⟨sb, 0, none⟩) ∧ v6 = .int .i64 ve ∧ Aside0 (wx.heap[sb]? = some (.cells #[.int .i64 j1, .slice A J2.length c] 24 (0, 0))) ∧ Aside0 (Kd.C (Kd.slice 3 (Kd.int .i64)) wx A J2.length J2 ∧ J2.length ≤ c) ∧ Aside0 (Below w5.heap.size w5 wx))
  case first =>
    go_wp2_with (go_at_call 30; (refine (permgroup_Join.calls K5 a A0 c0 L b B0 d0 M j1 J2 ve _ (Kd.C_below HG.out bel0) HGc.out (Kd.C_below HH.out bel0) HHc.out H5.out).mono ?_); rintro e w5_ ⟨v5_, rfl, hs5, hb5⟩; have HS := Aside0.mk hs5; have HBC := Aside0.mk (below_step (w := w5) bel0 hb5); obtain ⟨A5_, c5_, e5_⟩ := Kd.R_slice (Kd.S_R hs5); subst e5_; clear hs5 hb5)
    go_meet
    first
      | exact ⟨_, A5_, c5_, rfl, rfl, ⟨blk_new _ _⟩, ⟨(Kd.S_reads' (Kd.S_alloc HS.out _)).2.2, (Kd.S_reads' HS.out).2.1⟩, ⟨below_then HBC.out HBC.out.size (below_alloc (Below.refl _ _) _)⟩⟩
      | (have hk0 := blk_new w5_ (.cells #[.int .i64 0, .slice none 0 0] 24); have p1 := blk_put hk0 0 (.int .i64 j1) rfl; have p2 := blk_put p1 1 (.slice A5_ J2.length c5_) rfl; have hty : ∀ q, q ∈ 39 :: (Kd.slice 3 (Kd.int .i64)).E → q ≠ 24 := by decide; have s2 := Kd.S_set (Kd.S_set (Kd.S_alloc HS.out _) hk0 hty 0 (.int .i64 j1)) p1 hty 1 (.slice A5_ J2.length c5_); exact ⟨_, A5_, c5_, rfl, rfl, ⟨p2⟩, ⟨(Kd.S_reads' s2).2.2, (Kd.S_reads' s2).2.1⟩, ⟨((below_then HBC.out HBC.out.size (below_alloc (Below.refl _ _) _)).setCell HBC.out.size _).setCell HBC.out.size _⟩⟩)
  case rest =>
    obtain ⟨sb, As, cs, rfl, rfl, HZS, HCS, HBX⟩ := hcut
    replace HB := Aside0.mk (below_step HB.out HBX.out)
    replace HG := Aside0.mk (Kd.C_below HG.out HBX.out)
    replace HH := Aside0.mk (Kd.C_below HH.out HBX.out)
    replace hx0 := cell_move hx0 (fun hlt => HBX.out.block _ hlt)
    replace hx1 := cell_move hx1 (fun hlt => HBX.out.block _ hlt)
    replace hy0 := cell_move hy0 (fun hlt => HBX.out.block _ hlt)
    replace hy1 := cell_move hy1 (fun hlt => HBX.out.block _ hlt)
    clear HBX
    go_upto_region 6 with fail
    go_cut [11, 12] (fun v5 v6 wx => ∃ (sb : Nat) (A : Option Addr) (c : Nat), v5 = .pointer (some ⟨sb, 0, none⟩) ∧ v6 = .int .i64 ve ∧ Aside0 (wx.heap[sb]? = some (.cells #[.int .i64 m1, .slice A M2.length c] 24 (0, 0))) ∧ Aside0 (Kd.C (Kd.slice 3 (Kd.int .i64)) wx A M2.length M2 ∧ M2.length ≤ c) ∧ Aside0 (Below wc.heap.size wc wx))
    case first =>
      go_wp2_with (go_at_call 31; (refine (permgroup_Meet.calls K6 a A0 c0 L b B0 d0 M m1 M2 ve _ (Kd.C_below HG.out bel0) HGc.out (Kd.C_below HH.out bel0) HHc.out H6.out).mono ?_); rintro e w5_ ⟨v5_, rfl, hs5, hb5⟩; have HS := Aside0.mk hs5; have HBC := Aside0.mk (below_step (w := wc) bel0 hb5); obtain ⟨A5_, c5_, e5_⟩ := Kd.R_slice (Kd.S_R hs5); subst e5_; clear hs5 hb5)
      go_meet
      first
        | exact ⟨_, A5_, c5_, rfl, rfl, ⟨blk_new _ _⟩, ⟨(Kd.S_reads' (Kd.S_alloc HS.out _)).2.2, (Kd.S_reads' HS.out).2.1⟩, ⟨below_then HBC.out HBC.out.size (below_alloc (Below.refl _ _) _)⟩⟩
        | (have hk0 := blk_new w5_ (.cells #[.int .i64 0, .slice none 0 0] 24); have p1 := blk_put hk0 0 (.int .i64 m1) rfl; have p2 := blk_put p1 1 (.slice A5_ M2.length c5_) rfl; have hty : ∀ q, q ∈ 39 :: (Kd.slice 3 (Kd.int .i64)).E → q ≠ 24 := by decide; have s2 := Kd.S_set (Kd.S_set (Kd.S_alloc HS.out _) hk0 hty 0 (.int .i64 m1)) p1 hty 1 (.slice A5_ M2.length c5_); exact ⟨_, A5_, c5_, rfl, rfl, ⟨p2⟩, ⟨(Kd.S_reads' s2).2.2, (Kd.S_reads' s2).2.1⟩, ⟨((below_then HBC.out HBC.out.size (below_alloc (Below.refl _ _) _)).setCell HBC.out.size _).setCell HBC.out.size _⟩⟩)
    case rest =>
      obtain ⟨tb, At, ct, rfl, rfl, HZT, HCT, HBX⟩ := hcut
      replace HB := Aside0.mk (below_step HB.out HBX.out)
      replace HG := Aside0.mk (Kd.C_below HG.out HBX.out)
      replace HH := Aside0.mk (Kd.C_below HH.out HBX.out)
      replace hx0 := cell_move hx0 (fun hlt => HBX.out.block _ hlt)
      replace hx1 := cell_move hx1 (fun hlt => HBX.out.block _ hlt)
      replace hy0 := cell_move hy0 (fun hlt => HBX.out.block _ hlt)
      replace hy1 := cell_move hy1 (fun hlt => HBX.out.block _ hlt)
      replace HZS := Aside0.mk ((HBX.out.block _ (blk_lt HZS.out)).trans HZS.out)
      have HGS := Aside0.mk (Kd.C_below HCS.out.1 HBX.out)
      have HGSc := Aside0.mk HCS.out.2
      have HGT := Aside0.mk HCT.out.1
      have HGTc := Aside0.mk HCT.out.2
      have hs0 := blk_cell HZS.out 0
      have hs1 := blk_cell HZS.out 1
      have ht0 := blk_cell HZT.out 0
      have ht1 := blk_cell HZT.out 1
      simp only [List.getElem?_toArray, List.getElem?_cons_zero, List.getElem?_cons_succ] at hs0 hs1 ht0 ht1
      clear HBX HZS HZT HCS HCT
      go_wp2_with (first
        | (go_at_call 24; have hq_ : w12 = w12 := rfl; clear hq_; (refine (PPg.galoislaw23_none.calls m1 At ct M2 true _ (Kd.C_below HGT.out bel0) HGTc.out H10.out).mono ?_); rintro e w13 ⟨rfl, hb13⟩; have hw13 := below_step (w := w12) bel0 hb13; replace HB := Aside0.mk (below_step HB.out hw13); replace HG := Aside0.mk (Kd.C_below HG.out hw13); replace HH := Aside0.mk (Kd.C_below HH.out hw13); replace hx0 := cell_move hx0 (fun hlt => hw13.block _ hlt); replace hx1 := cell_move hx1 (fun hlt => hw13.block _ hlt); replace hy0 := cell_move hy0 (fun hlt => hw13.block _ hlt); replace hy1 := cell_move hy1 (fun hlt => hw13.block _ hlt); replace HGS := Aside0.mk (Kd.C_below HGS.out hw13); replace HGT := Aside0.mk (Kd.C_below HGT.out hw13); replace hs0 := cell_move hs0 (fun hlt => hw13.block _ hlt); replace hs1 := cell_move hs1 (fun hlt => hw13.block _ hlt); replace ht0 := cell_move ht0 (fun hlt => hw13.block _ hlt); replace ht1 := cell_move ht1 (fun hlt => hw13.block _ hlt); clear hb13 hw13)
        | (go_at_call 24; have hq_ : w11 = w11 := rfl; clear hq_; (refine (PPg.galoislaw23_none.calls j1 As cs J2 true _ (Kd.C_below HGS.out bel0) HGSc.out H9.out).mono ?_); rintro e w12 ⟨rfl, hb12⟩; have hw12 := below_step (w := w11) bel0 hb12; replace HB := Aside0.mk (below_step HB.out hw12); replace HG := Aside0.mk (Kd.C_below HG.out hw12); replace HH := Aside0.mk (Kd.C_below HH.out hw12); replace hx0 := cell_move hx0 (fun hlt => hw12.block _ hlt); replace hx1 := cell_move hx1 (fun hlt => hw12.block _ hlt); replace hy0 := cell_move hy0 (fun hlt => hw12.block _ hlt); replace hy1 := cell_move hy1 (fun hlt => hw12.block _ hlt); replace HGS := Aside0.mk (Kd.C_below HGS.out hw12); replace HGT := Aside0.mk (Kd.C_below HGT.out hw12); replace hs0 := cell_move hs0 (fun hlt => hw12.block _ hlt); replace hs1 := cell_move hs1 (fun hlt => hw12.block _ hlt); replace ht0 := cell_move ht0 (fun hlt => hw12.block _ hlt); replace ht1 := cell_move ht1 (fun hlt => hw12.block _ hlt); clear hb12 hw12)
        | (go_at_call 32; have hq_ : w10 = w10 := rfl; clear hq_; (refine (PRf.galoisref23_Two.calls K8 a A0 c0 L b B0 d0 M ve _ (Kd.C_below HG.out bel0) HGc.out (Kd.C_below HH.out bel0) HHc.out H8.out).mono ?_); rintro e w11 ⟨rfl, hb11⟩; have hw11 := below_step (w := w10) bel0 hb11; replace HB := Aside0.mk (below_step HB.out hw11); replace HG := Aside0.mk (Kd.C_below HG.out hw11); replace HH := Aside0.mk (Kd.C_below HH.out hw11); replace hx0 := cell_move hx0 (fun hlt => hw11.block _ hlt); replace hx1 := cell_move hx1 (fun hlt => hw11.block _ hlt); replace hy0 := cell_move hy0 (fun hlt => hw11.block _ hlt); replace hy1 := cell_move hy1 (fun hlt => hw11.block _ hlt); replace HGS := Aside0.mk (Kd.C_below HGS.out hw11); replace HGT := Aside0.mk (Kd.C_below HGT.out hw11); replace hs0 := cell_move hs0 (fun hlt => hw11.block _ hlt); replace hs1 := cell_move hs1 (fun hlt => hw11.block _ hlt); replace ht0 := cell_move ht0 (fun hlt => hw11.block _ hlt); replace ht1 := cell_move ht1 (fun hlt => hw11.block _ hlt); clear hb11 hw11)
        | (go_at_call 32; have hq_ : wc = wc := rfl; clear hq_; (refine (PRf.galoisref23_Two.calls K7 b B0 d0 M a A0 c0 L wv _ (Kd.C_below HH.out bel0) HHc.out (Kd.C_below HG.out bel0) HGc.out H7.out).mono ?_); rintro e w10 ⟨rfl, hb10⟩; have hw10 := below_step (w := wc) bel0 hb10; replace HB := Aside0.mk (below_step HB.out hw10); replace HG := Aside0.mk (Kd.C_below HG.out hw10); replace HH := Aside0.mk (Kd.C_below HH.out hw10); replace hx0 := cell_move hx0 (fun hlt => hw10.block _ hlt); replace hx1 := cell_move hx1 (fun hlt => hw10.block _ hlt); replace hy0 := cell_move hy0 (fun hlt => hw10.block _ hlt); replace hy1 := cell_move hy1 (fun hlt => hw10.block _ hlt); replace HGS := Aside0.mk (Kd.C_below HGS.out hw10); replace HGT := Aside0.mk (Kd.C_below HGT.out hw10); replace hs0 := cell_move hs0 (fun hlt => hw10.block _ hlt); replace hs1 := cell_move hs1 (fun hlt => hw10.block _ hlt); replace ht0 := cell_move ht0 (fun hlt => hw10.block _ hlt); replace ht1 := cell_move ht1 (fun hlt => hw10.block _ hlt); clear hb10 hw10))
      go_ret
      exact ⟨rfl, below_then (below_alloc (below_alloc (Below.refl _ _) _) _) (by simp; omega) HB.out⟩
end Go.Proofs.YtmbldnoepjmhhaaGreat.Bs
end
section
/- The walk of PermgroupPairs, by values: the way without an error. -/
namespace Go.Proofs.YtmbldnoepjmhhaaGreat.Bs
open Go.RowKit Go.Proofs.YtmbldnoepjmhhaaGreatW.PrintWords Go.Proofs.YtmbldnoepjmhhaaGreatW.PrintLast Go.Proofs.YtmbldnoepjmhhaaGreatW.PrintMore Go.Proofs.YtmbldnoepjmhhaaGreat.Plain Go.Proofs.YtmbldnoepjmhhaaGreat.PBs Go.Proofs.YtmbldnoepjmhhaaGreat.PAll
theorem common_C (k : Nat) (A0 : Option Addr) (c0 : Nat) (l0 : List (List Int)) (A1 : Option Addr) (c1 : Nat) (l1 : List (List Int)) (r : List (List Int)) (w : World) (h0 : Kd.C (Kd.slice 3 (Kd.int .i64)) w A0 l0.length l0) (hc0 : l0.length ≤ c0) (hr1 : Kd.C (Kd.slice 3 (Kd.int .i64)) w A1 l1.length l1) (hc1 : l1.length ≤ c1) (h : PRf.galoisref23_Common.f k l0 l1 = some r) :
    Calls Tryz.prog 34 #[.slice A0 l0.length c0, .slice A1 l1.length c1] w fun e w' => ∃ A c, e = .returned (.slice A r.length c) ∧ r.length ≤ c ∧ Kd.C (Kd.slice 3 (Kd.int .i64)) w' A r.length r ∧ Below w.heap.size w w' := by
  refine (PRf.galoisref23_Common.calls k _ A0 c0 l0 A1 c1 l1 r w (C_V heapP h0 hc0) hr1 hc1 h).mono ?_
  rintro e w' ⟨v, rfl, hn, hb⟩
  have hv := Kd.N_V (base' := 0) hn
  obtain ⟨A, c, rfl⟩ := Kd.V_slice hv
  exact ⟨A, c, rfl, (Kd.V_reads' hv).2.1, (Kd.V_reads' hv).2.2, hb⟩
set_option maxHeartbeats 16000000 in
set_option maxRecDepth 100000 in
theorem pairs_many (a b : Int) (A0 : Option Addr) (c0 : Nat) (L : List (List Int)) (B0 : Option Addr) (d0 : Nat) (M : List (List Int)) (w : World) (hg : Kd.C (Kd.slice 3 (Kd.int .i64)) w A0 L.length L) (hgc : L.length ≤ c0) (hh : Kd.C (Kd.slice 3 (Kd.int .i64)) w B0 M.length M) (hhc : M.length ≤ d0) (K1 K2 K3 K4 K5 K6 K7 : Nat) (h1 : PPg.galoislaw23_large.f K1 a L = some false) (h2 : PPg.galoislaw23_large.f K2 b M = some false) (vin vsame : Bool) (j1 m1 : Int) (J2 M2 : List (List Int)) (h3 : PPr.permgroup_IsSubgroup.f K3 b M a L = some (vin, 0)) (h4 : PPr.permgroup_Same.f K4 a L b M = some (vsame, 0)) (h5 : permgroup_Join.f K5 a L b M = some (j1, J2, 5)) (h6 : permgroup_Meet.f K6 a L b M = some (m1, M2, 0)) (h7 : PRf.galoisref23_Two.f K7 b M a L = some 0) (E F X : List (List Int)) (vsub : Bool) (K8 K9 K10 K11 K12 K13 : Nat) (h8 : PPg.galoisref23_Elements.f K8 a L = some (E, true)) (h9 : PPg.galoisref23_Elements.f K9 b M = some (F, true)) (h10 : PRf.galoisref23_Subset.f K10 F E = some vsub) (h11 : PRf.galoisref23_Common.f K11 E F = some X) (h12 : PGr.galoisref23_Greedy.f K12 a X = some (m1, M2)) (h13 : PRf.galoisref23_Equal.f K13 m1 M2 m1 M2 = some true) (hin : vin = vsub) (hsm : vsame = (vsub && decide ((E.length : Int) = (F.length : Int)))) (hS : (L.length : Int) + (M.length : Int) ≤ 64) (hm : 32 < (L.length : Int) + (M.length : Int)) (h14 : PPg.galoislaw23_none.f j1 J2 = some true) : Calls Tryz.prog 5 #[.agg #[.int .i64 a, .slice A0 L.length c0], .agg #[.int .i64 b, .slice B0 M.length d0]] w fun e w' => e = .returned (.bool true) ∧ Below w.heap.size w w' := by
  have HSUM := Aside0.mk hS
  have ws : wrap64 ((L.length : Int) + (M.length : Int)) = (L.length : Int) + (M.length : Int) := IntWalk.wrap64_in _ ⟨by omega, by omega⟩
  have ws2 : IntKind.i64.wrap ((L.length : Int) + (M.length : Int)) = (L.length : Int) + (M.length : Int) := IntWalk.i64_in _ (by omega)
  have dm : decide (32 < (L.length : Int) + (M.length : Int)) = true := decide_eq_true hm
  have H14 := Aside0.mk h14
  clear h14 hm hS
  have H8 := Aside0.mk h8
  have H9 := Aside0.mk h9
  have H10 := Aside0.mk h10
  have H11 := Aside0.mk h11
  have H12 := Aside0.mk h12
  have H13 := Aside0.mk h13
  clear h8 h9 h10 h11 h12 h13
  have H1 := Aside0.mk h1
  have H2 := Aside0.mk h2
  have H3 := Aside0.mk h3
  have H4 := Aside0.mk h4
  have H5 := Aside0.mk h5
  have H6 := Aside0.mk h6
  have H7 := Aside0.mk h7
  clear h1 h2 h3 h4 h5 h6 h7
  have hcs : (vin = false ∧ vsub = false ∧ vsame = false) ∨ (vin = true ∧ vsub = true ∧ vsame = true ∧ ((E.length : Int) == (F.length : Int)) = true) ∨ (vin = true ∧ vsub = true ∧ vsame = false ∧ ((E.length : Int) == (F.length : Int)) = false) := by
    subst hin
    cases vin with
    | false => exact .inl ⟨rfl, rfl, hsm⟩
    | true =>
      by_cases e : (E.length : Int) = (F.length : Int)
      · exact .inr (.inl ⟨rfl, rfl, by rw [hsm, decide_eq_true e]; rfl, beq_iff_eq.2 e⟩)
      · exact .inr (.inr ⟨rfl, rfl, by rw [hsm, decide_eq_false e]; rfl, beq_eq_false_iff_ne.2 e⟩)
  clear hin hsm
  have hu := Tryz.underlying24
  have HB : Aside0 (Below ((w.alloc (.cells #[.int .i64 a, .slice A0 L.length c0] 24)).alloc (.cells #[.int .i64 b, .slice B0 M.length d0] 24)).heap.size ((w.alloc (.cells #[.int .i64 a, .slice A0 L.length c0] 24)).alloc (.cells #[.int .i64 b, .slice B0 M.length d0] 24)) ((w.alloc (.cells #[.int .i64 a, .slice A0 L.length c0] 24)).alloc (.cells #[.int .i64 b, .slice B0 M.length d0] 24))) := ⟨Below.refl _ _⟩
  have HGc := Aside0.mk hgc
  have HHc := Aside0.mk hhc
  have HBW : Aside0 (Below w.heap.size w ((w.alloc (.cells #[.int .i64 a, .slice A0 L.length c0] 24)).alloc (.cells #[.int .i64 b, .slice B0 M.length d0] 24))) := ⟨below_alloc (below_alloc (Below.refl _ _) _) _⟩
  have HG := Aside0.mk (Kd.C_below hg HBW.out)
  have HH := Aside0.mk (Kd.C_below hh HBW.out)
  have hx0 : ((w.alloc (.cells #[.int .i64 a, .slice A0 L.length c0] 24)).alloc (.cells #[.int .i64 b, .slice B0 M.length d0] 24)).cell? ⟨w.heap.size, 0, none⟩ = some (.int .i64 a) := by rw [World.cell?_alloc_past _ _ _ (by simp), World.cell?_alloc_at _ _ _ _ rfl]; rfl
  have hx1 : ((w.alloc (.cells #[.int .i64 a, .slice A0 L.length c0] 24)).alloc (.cells #[.int .i64 b, .slice B0 M.length d0] 24)).cell? ⟨w.heap.size, 1, none⟩ = some (.slice A0 L.length c0) := by rw [World.cell?_alloc_past _ _ _ (by simp), World.cell?_alloc_at _ _ _ _ rfl]; rfl
  have hy0 : ((w.alloc (.cells #[.int .i64 a, .slice A0 L.length c0] 24)).alloc (.cells #[.int .i64 b, .slice B0 M.length d0] 24)).cell? ⟨w.heap.size + 1, 0, none⟩ = some (.int .i64 b) := by rw [World.cell?_alloc_at _ _ _ _ (by simp)]; rfl
  have hy1 : ((w.alloc (.cells #[.int .i64 a, .slice A0 L.length c0] 24)).alloc (.cells #[.int .i64 b, .slice B0 M.length d0] 24)).cell? ⟨w.heap.size + 1, 1, none⟩ = some (.slice B0 M.length d0) := by rw [World.cell?_alloc_at _ _ _ _ (by simp)]; rfl
  clear hg hgc hh hhc
  go_enter Tryz.func5, Tryz.ntmps5
  go_upto_region 5 with (first
    | (go_at_call 29; have hq_ : w4 = w4 := rfl; clear hq_; (refine (PPr.permgroup_Same.calls K4 a A0 c0 L b B0 d0 M vsame 0 _ (Kd.C_below HG.out bel0) HGc.out (Kd.C_below HH.out bel0) HHc.out H4.out).mono ?_); rintro e w5 ⟨rfl, hb5⟩; have hw5 := below_step (w := w4) bel0 hb5; replace HB := Aside0.mk (below_step HB.out hw5); replace HG := Aside0.mk (Kd.C_below HG.out hw5); replace HH := Aside0.mk (Kd.C_below HH.out hw5); replace hx0 := cell_move hx0 (fun hlt => hw5.block _ hlt); replace hx1 := cell_move hx1 (fun hlt => hw5.block _ hlt); replace hy0 := cell_move hy0 (fun hlt => hw5.block _ hlt); replace hy1 := cell_move hy1 (fun hlt => hw5.block _ hlt); clear hb5 hw5)
    | (go_at_call 28; have hq_ : w3 = w3 := rfl; clear hq_; (refine (PPr.permgroup_IsSubgroup.calls K3 b B0 d0 M a A0 c0 L vin 0 _ (Kd.C_below HH.out bel0) HHc.out (Kd.C_below HG.out bel0) HGc.out H3.out).mono ?_); rintro e w4 ⟨rfl, hb4⟩; have hw4 := below_step (w := w3) bel0 hb4; replace HB := Aside0.mk (below_step HB.out hw4); replace HG := Aside0.mk (Kd.C_below HG.out hw4); replace HH := Aside0.mk (Kd.C_below HH.out hw4); replace hx0 := cell_move hx0 (fun hlt => hw4.block _ hlt); replace hx1 := cell_move hx1 (fun hlt => hw4.block _ hlt); replace hy0 := cell_move hy0 (fun hlt => hw4.block _ hlt); replace hy1 := cell_move hy1 (fun hlt => hw4.block _ hlt); clear hb4 hw4)
    | (go_at_call 20; have hq_ : w2 = w2 := rfl; clear hq_; (refine (PPg.galoislaw23_large.calls K2 b B0 d0 M false _ (Kd.C_below HH.out bel0) HHc.out H2.out).mono ?_); rintro e w3 ⟨rfl, hb3⟩; have hw3 := below_step (w := w2) bel0 hb3; replace HB := Aside0.mk (below_step HB.out hw3); replace HG := Aside0.mk (Kd.C_below HG.out hw3); replace HH := Aside0.mk (Kd.C_below HH.out hw3); replace hx0 := cell_move hx0 (fun hlt => hw3.block _ hlt); replace hx1 := cell_move hx1 (fun hlt => hw3.block _ hlt); replace hy0 := cell_move hy0 (fun hlt => hw3.block _ hlt); replace hy1 := cell_move hy1 (fun hlt => hw3.block _ hlt); clear hb3 hw3)
    | (go_at_call 20; have hq_ : w1 = w1 := rfl; clear hq_; (refine (PPg.galoislaw23_large.calls K1 a A0 c0 L false _ (Kd.C_below HG.out bel0) HGc.out H1.out).mono ?_); rintro e w2 ⟨rfl, hb2⟩; have hw2 := below_step (w := w1) bel0 hb2; replace HB := Aside0.mk (below_step HB.out hw2); replace HG := Aside0.mk (Kd.C_below HG.out hw2); replace HH := Aside0.mk (Kd.C_below HH.out hw2); replace hx0 := cell_move hx0 (fun hlt => hw2.block _ hlt); replace hx1 := cell_move hx1 (fun hlt => hw2.block _ hlt); replace hy0 := cell_move hy0 (fun hlt => hw2.block _ hlt); replace hy1 := cell_move hy1 (fun hlt => hw2.block _ hlt); clear hb2 hw2)
    | (go_at_call 19; (refine (galoislaw23_awake.calls true _ rfl).mono ?_); rintro e w1 ⟨rfl, hb1⟩; have hw1 := below_step (w := ((w.alloc (.cells #[.int .i64 a, .slice A0 L.length c0] 24)).alloc (.cells #[.int .i64 b, .slice B0 M.length d0] 24))) bel0 hb1; replace HB := Aside0.mk (below_step HB.out hw1); replace HG := Aside0.mk (Kd.C_below HG.out hw1); replace HH := Aside0.mk (Kd.C_below HH.out hw1); replace hx0 := cell_move hx0 (fun hlt => hw1.block _ hlt); replace hx1 := cell_move hx1 (fun hlt => hw1.block _ hlt); replace hy0 := cell_move hy0 (fun hlt => hw1.block _ hlt); replace hy1 := cell_move hy1 (fun hlt => hw1.block _ hlt); clear hb1 hw1))
  go_cut [9, 10] (fun v5 v6 wx => ∃ (sb : Nat) (A : Option Addr) (c : Nat), v5 = .pointer (some ⟨sb, 0, none⟩) ∧ v6 = .int .i64 5 ∧ Aside0 (wx.heap[sb]? = some (.cells #[.int .i64 j1, .slice A J2.length c] 24 (0, 0))) ∧ Aside0 (Kd.C (Kd.slice 3 (Kd.int .i64)) wx A J2.length J2 ∧ J2.length ≤ c) ∧ Aside0 (Below w5.heap.size w5 wx))
  case first =>
    go_wp2_with (go_at_call 30; (refine (permgroup_Join.calls K5 a A0 c0 L b B0 d0 M j1 J2 5 _ (Kd.C_below HG.out bel0) HGc.out (Kd.C_below HH.out bel0) HHc.out H5.out).mono ?_); rintro e w5_ ⟨v5_, rfl, hs5, hb5⟩; have HS := Aside0.mk hs5; have HBC := Aside0.mk (below_step (w := w5) bel0 hb5); obtain ⟨A5_, c5_, e5_⟩ := Kd.R_slice (Kd.S_R hs5); subst e5_; clear hs5 hb5)
    go_meet
    first
      | exact ⟨_, A5_, c5_, rfl, rfl, ⟨blk_new _ _⟩, ⟨(Kd.S_reads' (Kd.S_alloc HS.out _)).2.2, (Kd.S_reads' HS.out).2.1⟩, ⟨below_then HBC.out HBC.out.size (below_alloc (Below.refl _ _) _)⟩⟩
      | (have hk0 := blk_new w5_ (.cells #[.int .i64 0, .slice none 0 0] 24); have p1 := blk_put hk0 0 (.int .i64 j1) rfl; have p2 := blk_put p1 1 (.slice A5_ J2.length c5_) rfl; have hty : ∀ q, q ∈ 39 :: (Kd.slice 3 (Kd.int .i64)).E → q ≠ 24 := by decide; have s2 := Kd.S_set (Kd.S_set (Kd.S_alloc HS.out _) hk0 hty 0 (.int .i64 j1)) p1 hty 1 (.slice A5_ J2.length c5_); exact ⟨_, A5_, c5_, rfl, rfl, ⟨p2⟩, ⟨(Kd.S_reads' s2).2.2, (Kd.S_reads' s2).2.1⟩, ⟨((below_then HBC.out HBC.out.size (below_alloc (Below.refl _ _) _)).setCell HBC.out.size _).setCell HBC.out.size _⟩⟩)
  case rest =>
    obtain ⟨sb, As, cs, rfl, rfl, HZS, HCS, HBX⟩ := hcut
    replace HB := Aside0.mk (below_step HB.out HBX.out)
    replace HG := Aside0.mk (Kd.C_below HG.out HBX.out)
    replace HH := Aside0.mk (Kd.C_below HH.out HBX.out)
    replace hx0 := cell_move hx0 (fun hlt => HBX.out.block _ hlt)
    replace hx1 := cell_move hx1 (fun hlt => HBX.out.block _ hlt)
    replace hy0 := cell_move hy0 (fun hlt => HBX.out.block _ hlt)
    replace hy1 := cell_move hy1 (fun hlt => HBX.out.block _ hlt)
    clear HBX
    go_upto_region 6 with fail
    go_cut [11, 12] (fun v5 v6 wx => ∃ (sb : Nat) (A : Option Addr) (c : Nat), v5 = .pointer (some ⟨sb, 0, none⟩) ∧ v6 = .int .i64 0 ∧ Aside0 (wx.heap[sb]? = some (.cells #[.int .i64 m1, .slice A M2.length c] 24 (0, 0))) ∧ Aside0 (Kd.C (Kd.slice 3 (Kd.int .i64)) wx A M2.length M2 ∧ M2.length ≤ c) ∧ Aside0 (Below wc.heap.size wc wx))
    case first =>
      go_wp2_with (go_at_call 31; (refine (permgroup_Meet.calls K6 a A0 c0 L b B0 d0 M m1 M2 0 _ (Kd.C_below HG.out bel0) HGc.out (Kd.C_below HH.out bel0) HHc.out H6.out).mono ?_); rintro e w5_ ⟨v5_, rfl, hs5, hb5⟩; have HS := Aside0.mk hs5; have HBC := Aside0.mk (below_step (w := wc) bel0 hb5); obtain ⟨A5_, c5_, e5_⟩ := Kd.R_slice (Kd.S_R hs5); subst e5_; clear hs5 hb5)
      go_meet
      first
        | exact ⟨_, A5_, c5_, rfl, rfl, ⟨blk_new _ _⟩, ⟨(Kd.S_reads' (Kd.S_alloc HS.out _)).2.2, (Kd.S_reads' HS.out).2.1⟩, ⟨below_then HBC.out HBC.out.size (below_alloc (Below.refl _ _) _)⟩⟩
        | (have hk0 := blk_new w5_ (.cells #[.int .i64 0, .slice none 0 0] 24); have p1 := blk_put hk0 0 (.int .i64 m1) rfl; have p2 := blk_put p1 1 (.slice A5_ M2.length c5_) rfl; have hty : ∀ q, q ∈ 39 :: (Kd.slice 3 (Kd.int .i64)).E → q ≠ 24 := by decide; have s2 := Kd.S_set (Kd.S_set (Kd.S_alloc HS.out _) hk0 hty 0 (.int .i64 m1)) p1 hty 1 (.slice A5_ M2.length c5_); exact ⟨_, A5_, c5_, rfl, rfl, ⟨p2⟩, ⟨(Kd.S_reads' s2).2.2, (Kd.S_reads' s2).2.1⟩, ⟨((below_then HBC.out HBC.out.size (below_alloc (Below.refl _ _) _)).setCell HBC.out.size _).setCell HBC.out.size _⟩⟩)
    case rest =>
      obtain ⟨tb, At, ct, rfl, rfl, HZT, HCT, HBX⟩ := hcut
      replace HB := Aside0.mk (below_step HB.out HBX.out)
      replace HG := Aside0.mk (Kd.C_below HG.out HBX.out)
      replace HH := Aside0.mk (Kd.C_below HH.out HBX.out)
      replace hx0 := cell_move hx0 (fun hlt => HBX.out.block _ hlt)
      replace hx1 := cell_move hx1 (fun hlt => HBX.out.block _ hlt)
      replace hy0 := cell_move hy0 (fun hlt => HBX.out.block _ hlt)
      replace hy1 := cell_move hy1 (fun hlt => HBX.out.block _ hlt)
      replace HZS := Aside0.mk ((HBX.out.block _ (blk_lt HZS.out)).trans HZS.out)
      have HGS := Aside0.mk (Kd.C_below HCS.out.1 HBX.out)
      have HGSc := Aside0.mk HCS.out.2
      have HGT := Aside0.mk HCT.out.1
      have HGTc := Aside0.mk HCT.out.2
      have hs0 := blk_cell HZS.out 0
      have hs1 := blk_cell HZS.out 1
      have ht0 := blk_cell HZT.out 0
      have ht1 := blk_cell HZT.out 1
      simp only [List.getElem?_toArray, List.getElem?_cons_zero, List.getElem?_cons_succ] at hs0 hs1 ht0 ht1
      clear HBX HZS HZT HCS HCT
      go_upto_region 14 with (first
        | (go_at_call 33; have hq_ : w12 = w12 := rfl; clear hq_; (refine (PRf.galoisref23_Subset.calls K10 A12 c12 F A11 c11 E vsub _ (Kd.C_below HF.out bel0) HFc.out (Kd.C_below HE.out bel0) HEc.out H10.out).mono ?_); rintro e w13 ⟨rfl, hb13⟩; have hw13 := below_step (w := w12) bel0 hb13; replace HB := Aside0.mk (below_step HB.out hw13); replace HG := Aside0.mk (Kd.C_below HG.out hw13); replace HH := Aside0.mk (Kd.C_below HH.out hw13); replace hx0 := cell_move hx0 (fun hlt => hw13.block _ hlt); replace hx1 := cell_move hx1 (fun hlt => hw13.block _ hlt); replace hy0 := cell_move hy0 (fun hlt => hw13.block _ hlt); replace hy1 := cell_move hy1 (fun hlt => hw13.block _ hlt); replace HGS := Aside0.mk (Kd.C_below HGS.out hw13); replace HGT := Aside0.mk (Kd.C_below HGT.out hw13); replace hs0 := cell_move hs0 (fun hlt => hw13.block _ hlt); replace hs1 := cell_move hs1 (fun hlt => hw13.block _ hlt); replace ht0 := cell_move ht0 (fun hlt => hw13.block _ hlt); replace ht1 := cell_move ht1 (fun hlt => hw13.block _ hlt); replace HE := Aside0.mk (Kd.C_below HE.out hw13); replace HF := Aside0.mk (Kd.C_below HF.out hw13); clear hb13 hw13)
        | (go_at_call 25; have hq_ : w11 = w11 := rfl; clear hq_; (refine (PPg.galoisref23_Elements.calls K9 b B0 d0 M F true _ (Kd.C_below HH.out bel0) HHc.out H9.out).mono ?_); rintro e w12 ⟨v12, rfl, hs12, hb12⟩; have hw12 := below_step (w := w11) bel0 hb12; replace HB := Aside0.mk (below_step HB.out hw12); replace HG := Aside0.mk (Kd.C_below HG.out hw12); replace HH := Aside0.mk (Kd.C_below HH.out hw12); replace hx0 := cell_move hx0 (fun hlt => hw12.block _ hlt); replace hx1 := cell_move hx1 (fun hlt => hw12.block _ hlt); replace hy0 := cell_move hy0 (fun hlt => hw12.block _ hlt); replace hy1 := cell_move hy1 (fun hlt => hw12.block _ hlt); replace HGS := Aside0.mk (Kd.C_below HGS.out hw12); replace HGT := Aside0.mk (Kd.C_below HGT.out hw12); replace hs0 := cell_move hs0 (fun hlt => hw12.block _ hlt); replace hs1 := cell_move hs1 (fun hlt => hw12.block _ hlt); replace ht0 := cell_move ht0 (fun hlt => hw12.block _ hlt); replace ht1 := cell_move ht1 (fun hlt => hw12.block _ hlt); replace HE := Aside0.mk (Kd.C_below HE.out hw12); obtain ⟨A12, c12, e12⟩ := Kd.R_slice (Kd.S_R hs12); subst e12; have HF := Aside0.mk (Kd.S_reads' hs12).2.2; have HFc := Aside0.mk (Kd.S_reads' hs12).2.1; clear hs12; clear hb12 hw12)
        | (go_at_call 25; have hq_ : w10 = w10 := rfl; clear hq_; (refine (PPg.galoisref23_Elements.calls K8 a A0 c0 L E true _ (Kd.C_below HG.out bel0) HGc.out H8.out).mono ?_); rintro e w11 ⟨v11, rfl, hs11, hb11⟩; have hw11 := below_step (w := w10) bel0 hb11; replace HB := Aside0.mk (below_step HB.out hw11); replace HG := Aside0.mk (Kd.C_below HG.out hw11); replace HH := Aside0.mk (Kd.C_below HH.out hw11); replace hx0 := cell_move hx0 (fun hlt => hw11.block _ hlt); replace hx1 := cell_move hx1 (fun hlt => hw11.block _ hlt); replace hy0 := cell_move hy0 (fun hlt => hw11.block _ hlt); replace hy1 := cell_move hy1 (fun hlt => hw11.block _ hlt); replace HGS := Aside0.mk (Kd.C_below HGS.out hw11); replace HGT := Aside0.mk (Kd.C_below HGT.out hw11); replace hs0 := cell_move hs0 (fun hlt => hw11.block _ hlt); replace hs1 := cell_move hs1 (fun hlt => hw11.block _ hlt); replace ht0 := cell_move ht0 (fun hlt => hw11.block _ hlt); replace ht1 := cell_move ht1 (fun hlt => hw11.block _ hlt); obtain ⟨A11, c11, e11⟩ := Kd.R_slice (Kd.S_R hs11); subst e11; have HE := Aside0.mk (Kd.S_reads' hs11).2.2; have HEc := Aside0.mk (Kd.S_reads' hs11).2.1; clear hs11; clear hb11 hw11)
        | (go_at_call 32; have hq_ : wc = wc := rfl; clear hq_; (refine (PRf.galoisref23_Two.calls K7 b B0 d0 M a A0 c0 L 0 _ (Kd.C_below HH.out bel0) HHc.out (Kd.C_below HG.out bel0) HGc.out H7.out).mono ?_); rintro e w10 ⟨rfl, hb10⟩; have hw10 := below_step (w := wc) bel0 hb10; replace HB := Aside0.mk (below_step HB.out hw10); replace HG := Aside0.mk (Kd.C_below HG.out hw10); replace HH := Aside0.mk (Kd.C_below HH.out hw10); replace hx0 := cell_move hx0 (fun hlt => hw10.block _ hlt); replace hx1 := cell_move hx1 (fun hlt => hw10.block _ hlt); replace hy0 := cell_move hy0 (fun hlt => hw10.block _ hlt); replace hy1 := cell_move hy1 (fun hlt => hw10.block _ hlt); replace HGS := Aside0.mk (Kd.C_below HGS.out hw10); replace HGT := Aside0.mk (Kd.C_below HGT.out hw10); replace hs0 := cell_move hs0 (fun hlt => hw10.block _ hlt); replace hs1 := cell_move hs1 (fun hlt => hw10.block _ hlt); replace ht0 := cell_move ht0 (fun hlt => hw10.block _ hlt); replace ht1 := cell_move ht1 (fun hlt => hw10.block _ hlt); clear hb10 hw10))
      have HBL : Aside0 (Below w13.heap.size w13 w13) := ⟨Below.refl _ _⟩
      go_cut [147] (fun v147 wx => v147 = .bool false ∧ Aside0 (Below w13.heap.size w13 wx))
      case first =>
        rcases hcs with ⟨rfl, rfl, rfl⟩ | hcs
        · refine wp_region_held_drew (S := (fun w' => w'.cell? ⟨w.heap.size, 0, none⟩ = some (.int .i64 a) ∧ w'.cell? ⟨tb, 0, none⟩ = some (.int .i64 m1) ∧ w'.cell? ⟨tb, 1, none⟩ = some (.slice At M2.length ct))) (by kernel_rfl) ?_ (fun hHeld => ?_)
          · exact ⟨hx0, ht0, ht1⟩
          refine wpAnyH_take (i := 0) (oi := { dst := some 110, op := Op.move (Operand.tmp 6), type := 27, pos := "law.go:112", after := #[], guard := none }) (v := ?_) rfl (by kernel_rfl) (by kernel_rfl) (by kernel_rfl) (fun _ _ _ h => h) (Or.inl ⟨by rfl, ?_⟩) (by assumption) ?_
          rotate_left 1
          · (intro w hSw; (try dsimp only at hSw); go_simp; (try with_reducible rfl))
          try simp only [Act.put, List.setIfInBounds_toArray, List.set_cons_zero, List.set_cons_succ]
          refine wpAnyH_take (i := 1) (oi := { dst := some 111, op := Op.binOp BinOp.neq 27 (Operand.tmp 110) (Operand.const (Value.int IntKind.i64 0)) 27, type := 4, pos := "law.go:112", after := #[{ on := 0, ground := Ground.data }], guard := none }) (v := ?_) rfl (by kernel_rfl) (by kernel_rfl) (by kernel_rfl) (fun _ _ _ h => h) (Or.inl ⟨by rfl, ?_⟩) (by assumption) ?_
          rotate_left 1
          · (intro w hSw; (try dsimp only at hSw); go_simp; (try with_reducible rfl))
          try simp only [Act.put, List.setIfInBounds_toArray, List.set_cons_zero, List.set_cons_succ]
          refine wpAnyH_take (i := 2) (oi := { dst := some 112, op := Op.move (Operand.tmp 111), type := 4, pos := "law.go:112", after := #[{ on := 1, ground := Ground.data }], guard := none }) (v := ?_) rfl (by kernel_rfl) (by kernel_rfl) (by kernel_rfl) (fun _ _ _ h => h) (Or.inl ⟨by rfl, ?_⟩) (by assumption) ?_
          rotate_left 1
          · (intro w hSw; (try dsimp only at hSw); go_simp; (try with_reducible rfl))
          try simp only [Act.put, List.setIfInBounds_toArray, List.set_cons_zero, List.set_cons_succ]
          refine wpAnyH_take (i := 3) (oi := { dst := some 113, op := Op.move (Operand.tmp 5), type := 4, pos := "law.go:112", after := #[{ on := 2, ground := Ground.guard }], guard := some (2, false) }) (v := ?_) rfl (by kernel_rfl) (by kernel_rfl) (by kernel_rfl) (fun _ _ _ h => h) (Or.inl ⟨by rfl, ?_⟩) (by assumption) ?_
          rotate_left 1
          · (intro w hSw; (try dsimp only at hSw); go_simp; (try with_reducible rfl))
          try simp only [Act.put, List.setIfInBounds_toArray, List.set_cons_zero, List.set_cons_succ]
          refine wpAnyH_take (i := 4) (oi := { dst := some 114, op := Op.move (Operand.tmp 19), type := 4, pos := "law.go:112", after := #[{ on := 2, ground := Ground.guard }], guard := some (2, false) }) (v := ?_) rfl (by kernel_rfl) (by kernel_rfl) (by kernel_rfl) (fun _ _ _ h => h) (Or.inl ⟨by rfl, ?_⟩) (by assumption) ?_
          rotate_left 1
          · (intro w hSw; (try dsimp only at hSw); go_simp; (try with_reducible rfl))
          try simp only [Act.put, List.setIfInBounds_toArray, List.set_cons_zero, List.set_cons_succ]
          refine wpAnyH_take (i := 5) (oi := { dst := some 115, op := Op.binOp BinOp.neq 4 (Operand.tmp 113) (Operand.tmp 114) 4, type := 4, pos := "law.go:112", after := #[{ on := 3, ground := Ground.data }, { on := 4, ground := Ground.data }, { on := 2, ground := Ground.guard }], guard := some (2, false) }) (v := ?_) rfl (by kernel_rfl) (by kernel_rfl) (by kernel_rfl) (fun _ _ _ h => h) (Or.inl ⟨by rfl, ?_⟩) (by assumption) ?_
          rotate_left 1
          · (intro w hSw; (try dsimp only at hSw); go_simp; (try with_reducible rfl))
          try simp only [Act.put, List.setIfInBounds_toArray, List.set_cons_zero, List.set_cons_succ]
          refine wpAnyH_take (i := 6) (oi := { dst := some 116, op := Op.pick (Operand.tmp 112) (Operand.const (Value.bool true)) (Operand.tmp 115), type := 4, pos := "law.go:112", after := #[{ on := 2, ground := Ground.data }, { on := 5, ground := Ground.data }], guard := none }) (v := ?_) rfl (by kernel_rfl) (by kernel_rfl) (by kernel_rfl) (fun _ _ _ h => h) (Or.inl ⟨by rfl, ?_⟩) (by assumption) ?_
          rotate_left 1
          · (intro w hSw; (try dsimp only at hSw); go_simp; (try with_reducible rfl))
          try simp only [Act.put, List.setIfInBounds_toArray, List.set_cons_zero, List.set_cons_succ]
          refine wpAnyH_take (i := 7) (oi := { dst := some 117, op := Op.move (Operand.tmp 116), type := 4, pos := "law.go:112", after := #[{ on := 6, ground := Ground.data }, { on := 2, ground := Ground.chain }], guard := none }) (v := ?_) rfl (by kernel_rfl) (by kernel_rfl) (by kernel_rfl) (fun _ _ _ h => h) (Or.inl ⟨by rfl, ?_⟩) (by assumption) ?_
          rotate_left 1
          · (intro w hSw; (try dsimp only at hSw); go_simp; (try with_reducible rfl))
          try simp only [Act.put, List.setIfInBounds_toArray, List.set_cons_zero, List.set_cons_succ]
          refine wpAnyH_take (i := 8) (oi := { dst := some 118, op := Op.move (Operand.tmp 8), type := 27, pos := "law.go:112", after := #[{ on := 7, ground := Ground.guard }], guard := some (7, false) }) (v := ?_) rfl (by kernel_rfl) (by kernel_rfl) (by kernel_rfl) (fun _ _ _ h => h) (Or.inl ⟨by rfl, ?_⟩) (by assumption) ?_
          rotate_left 1
          · (intro w hSw; (try dsimp only at hSw); go_simp; (try with_reducible rfl))
          try simp only [Act.put, List.setIfInBounds_toArray, List.set_cons_zero, List.set_cons_succ]
          refine wpAnyH_take (i := 9) (oi := { dst := some 119, op := Op.binOp BinOp.neq 27 (Operand.tmp 118) (Operand.const (Value.int IntKind.i64 0)) 27, type := 4, pos := "law.go:112", after := #[{ on := 8, ground := Ground.data }, { on := 7, ground := Ground.guard }], guard := some (7, false) }) (v := ?_) rfl (by kernel_rfl) (by kernel_rfl) (by kernel_rfl) (fun _ _ _ h => h) (Or.inl ⟨by rfl, ?_⟩) (by assumption) ?_
          rotate_left 1
          · (intro w hSw; (try dsimp only at hSw); go_simp; (try with_reducible rfl))
          try simp only [Act.put, List.setIfInBounds_toArray, List.set_cons_zero, List.set_cons_succ]
          refine wpAnyH_take (i := 10) (oi := { dst := some 120, op := Op.pick (Operand.tmp 117) (Operand.const (Value.bool true)) (Operand.tmp 119), type := 4, pos := "law.go:112", after := #[{ on := 7, ground := Ground.data }, { on := 9, ground := Ground.data }], guard := none }) (v := ?_) rfl (by kernel_rfl) (by kernel_rfl) (by kernel_rfl) (fun _ _ _ h => h) (Or.inl ⟨by rfl, ?_⟩) (by assumption) ?_
          rotate_left 1
          · (intro w hSw; (try dsimp only at hSw); go_simp; (try with_reducible rfl))
          try simp only [Act.put, List.setIfInBounds_toArray, List.set_cons_zero, List.set_cons_succ]
          refine wpAnyH_take (i := 11) (oi := { dst := some 121, op := Op.move (Operand.tmp 120), type := 4, pos := "law.go:112", after := #[{ on := 10, ground := Ground.data }, { on := 7, ground := Ground.chain }], guard := none }) (v := ?_) rfl (by kernel_rfl) (by kernel_rfl) (by kernel_rfl) (fun _ _ _ h => h) (Or.inl ⟨by rfl, ?_⟩) (by assumption) ?_
          rotate_left 1
          · (intro w hSw; (try dsimp only at hSw); go_simp; (try with_reducible rfl))
          try simp only [Act.put, List.setIfInBounds_toArray, List.set_cons_zero, List.set_cons_succ]
          refine wpAnyH_take (i := 12) (oi := { dst := some 122, op := Op.move (Operand.tmp 7), type := 4, pos := "law.go:112", after := #[{ on := 11, ground := Ground.guard }], guard := some (11, false) }) (v := ?_) rfl (by kernel_rfl) (by kernel_rfl) (by kernel_rfl) (fun _ _ _ h => h) (Or.inl ⟨by rfl, ?_⟩) (by assumption) ?_
          rotate_left 1
          · (intro w hSw; (try dsimp only at hSw); go_simp; (try with_reducible rfl))
          try simp only [Act.put, List.setIfInBounds_toArray, List.set_cons_zero, List.set_cons_succ]
          refine wpAnyH_take (i := 13) (oi := { dst := some 123, op := Op.move (Operand.tmp 19), type := 4, pos := "law.go:112", after := #[{ on := 11, ground := Ground.guard }], guard := some (11, false) }) (v := ?_) rfl (by kernel_rfl) (by kernel_rfl) (by kernel_rfl) (fun _ _ _ h => h) (Or.inl ⟨by rfl, ?_⟩) (by assumption) ?_
          rotate_left 1
          · (intro w hSw; (try dsimp only at hSw); go_simp; (try with_reducible rfl))
          try simp only [Act.put, List.setIfInBounds_toArray, List.set_cons_zero, List.set_cons_succ]
          refine wpAnyH_take (i := 14) (oi := { dst := some 124, op := Op.move (Operand.tmp 123), type := 4, pos := "law.go:112", after := #[{ on := 13, ground := Ground.data }, { on := 11, ground := Ground.chain }, { on := 11, ground := Ground.guard }], guard := some (11, false) }) (v := ?_) rfl (by kernel_rfl) (by kernel_rfl) (by kernel_rfl) (fun _ _ _ h => h) (Or.inl ⟨by rfl, ?_⟩) (by assumption) ?_
          rotate_left 1
          · (intro w hSw; (try dsimp only at hSw); go_simp; (try with_reducible rfl))
          try simp only [Act.put, List.setIfInBounds_toArray, List.set_cons_zero, List.set_cons_succ]
          refine wpAnyH_take (i := 15) (oi := { dst := some 125, op := Op.move (Operand.tmp 15), type := 22, pos := "law.go:112", after := #[{ on := 14, ground := Ground.guard }], guard := some (14, true) }) (v := undef) rfl (by kernel_rfl) (by kernel_rfl) (by kernel_rfl) (fun _ _ _ h => h) (Or.inr ⟨by rfl, rfl⟩) (by assumption) ?_
          try simp only [Act.put, List.setIfInBounds_toArray, List.set_cons_zero, List.set_cons_succ]
          refine wpAnyH_take (i := 16) (oi := { dst := some 126, op := Op.call { callee := Callee.builtin Builtin.len, args := #[Operand.tmp 125], argTypes := #[22] }, type := 3, pos := "law.go:112", after := #[{ on := 15, ground := Ground.data }, { on := 14, ground := Ground.guard }], guard := some (14, true) }) (v := undef) rfl (by kernel_rfl) (by kernel_rfl) (by kernel_rfl) (fun _ _ _ h => h) (Or.inr ⟨by rfl, rfl⟩) (by assumption) ?_
          try simp only [Act.put, List.setIfInBounds_toArray, List.set_cons_zero, List.set_cons_succ]
          refine wpAnyH_take (i := 17) (oi := { dst := some 127, op := Op.move (Operand.tmp 17), type := 22, pos := "law.go:112", after := #[{ on := 14, ground := Ground.guard }], guard := some (14, true) }) (v := undef) rfl (by kernel_rfl) (by kernel_rfl) (by kernel_rfl) (fun _ _ _ h => h) (Or.inr ⟨by rfl, rfl⟩) (by assumption) ?_
          try simp only [Act.put, List.setIfInBounds_toArray, List.set_cons_zero, List.set_cons_succ]
          refine wpAnyH_take (i := 18) (oi := { dst := some 128, op := Op.call { callee := Callee.builtin Builtin.len, args := #[Operand.tmp 127], argTypes := #[22] }, type := 3, pos := "law.go:112", after := #[{ on := 17, ground := Ground.data }, { on := 14, ground := Ground.guard }], guard := some (14, true) }) (v := undef) rfl (by kernel_rfl) (by kernel_rfl) (by kernel_rfl) (fun _ _ _ h => h) (Or.inr ⟨by rfl, rfl⟩) (by assumption) ?_
          try simp only [Act.put, List.setIfInBounds_toArray, List.set_cons_zero, List.set_cons_succ]
          refine wpAnyH_take (i := 19) (oi := { dst := some 129, op := Op.binOp BinOp.eql 3 (Operand.tmp 126) (Operand.tmp 128) 3, type := 4, pos := "law.go:112", after := #[{ on := 16, ground := Ground.data }, { on := 18, ground := Ground.data }, { on := 14, ground := Ground.guard }], guard := some (14, true) }) (v := undef) rfl (by kernel_rfl) (by kernel_rfl) (by kernel_rfl) (fun _ _ _ h => h) (Or.inr ⟨by rfl, rfl⟩) (by assumption) ?_
          try simp only [Act.put, List.setIfInBounds_toArray, List.set_cons_zero, List.set_cons_succ]
          refine wpAnyH_take (i := 20) (oi := { dst := some 130, op := Op.pick (Operand.tmp 124) (Operand.tmp 129) (Operand.const (Value.bool false)), type := 4, pos := "law.go:112", after := #[{ on := 14, ground := Ground.data }, { on := 19, ground := Ground.data }, { on := 11, ground := Ground.guard }], guard := some (11, false) }) (v := ?_) rfl (by kernel_rfl) (by kernel_rfl) (by kernel_rfl) (fun _ _ _ h => h) (Or.inl ⟨by rfl, ?_⟩) (by assumption) ?_
          rotate_left 1
          · (intro w hSw; (try dsimp only at hSw); go_simp; (try with_reducible rfl))
          try simp only [Act.put, List.setIfInBounds_toArray, List.set_cons_zero, List.set_cons_succ]
          refine wpAnyH_take (i := 21) (oi := { dst := some 131, op := Op.binOp BinOp.neq 4 (Operand.tmp 122) (Operand.tmp 130) 4, type := 4, pos := "law.go:112", after := #[{ on := 12, ground := Ground.data }, { on := 20, ground := Ground.data }, { on := 11, ground := Ground.guard }], guard := some (11, false) }) (v := ?_) rfl (by kernel_rfl) (by kernel_rfl) (by kernel_rfl) (fun _ _ _ h => h) (Or.inl ⟨by rfl, ?_⟩) (by assumption) ?_
          rotate_left 1
          · (intro w hSw; (try dsimp only at hSw); go_simp; (try with_reducible rfl))
          try simp only [Act.put, List.setIfInBounds_toArray, List.set_cons_zero, List.set_cons_succ]
          refine wpAnyH_take (i := 22) (oi := { dst := some 132, op := Op.pick (Operand.tmp 121) (Operand.const (Value.bool true)) (Operand.tmp 131), type := 4, pos := "law.go:112", after := #[{ on := 11, ground := Ground.data }, { on := 21, ground := Ground.data }], guard := none }) (v := ?_) rfl (by kernel_rfl) (by kernel_rfl) (by kernel_rfl) (fun _ _ _ h => h) (Or.inl ⟨by rfl, ?_⟩) (by assumption) ?_
          rotate_left 1
          · (intro w hSw; (try dsimp only at hSw); go_simp; (try with_reducible rfl))
          try simp only [Act.put, List.setIfInBounds_toArray, List.set_cons_zero, List.set_cons_succ]
          refine wpAnyH_take (i := 23) (oi := { dst := some 133, op := Op.move (Operand.tmp 132), type := 4, pos := "law.go:112", after := #[{ on := 22, ground := Ground.data }, { on := 14, ground := Ground.chain }], guard := none }) (v := ?_) rfl (by kernel_rfl) (by kernel_rfl) (by kernel_rfl) (fun _ _ _ h => h) (Or.inl ⟨by rfl, ?_⟩) (by assumption) ?_
          rotate_left 1
          · (intro w hSw; (try dsimp only at hSw); go_simp; (try with_reducible rfl))
          try simp only [Act.put, List.setIfInBounds_toArray, List.set_cons_zero, List.set_cons_succ]
          refine wpAnyH_take (i := 24) (oi := { dst := some 134, op := Op.move (Operand.tmp 12), type := 27, pos := "law.go:112", after := #[{ on := 23, ground := Ground.guard }], guard := some (23, false) }) (v := ?_) rfl (by kernel_rfl) (by kernel_rfl) (by kernel_rfl) (fun _ _ _ h => h) (Or.inl ⟨by rfl, ?_⟩) (by assumption) ?_
          rotate_left 1
          · (intro w hSw; (try dsimp only at hSw); go_simp; (try with_reducible rfl))
          try simp only [Act.put, List.setIfInBounds_toArray, List.set_cons_zero, List.set_cons_succ]
          refine wpAnyH_take (i := 25) (oi := { dst := some 135, op := Op.binOp BinOp.neq 27 (Operand.tmp 134) (Operand.const (Value.int IntKind.i64 0)) 27, type := 4, pos := "law.go:112", after := #[{ on := 24, ground := Ground.data }, { on := 23, ground := Ground.guard }], guard := some (23, false) }) (v := ?_) rfl (by kernel_rfl) (by kernel_rfl) (by kernel_rfl) (fun _ _ _ h => h) (Or.inl ⟨by rfl, ?_⟩) (by assumption) ?_
          rotate_left 1
          · (intro w hSw; (try dsimp only at hSw); go_simp; (try with_reducible rfl))
          try simp only [Act.put, List.setIfInBounds_toArray, List.set_cons_zero, List.set_cons_succ]
          refine wpAnyH_take (i := 26) (oi := { dst := some 136, op := Op.pick (Operand.tmp 133) (Operand.const (Value.bool true)) (Operand.tmp 135), type := 4, pos := "law.go:112", after := #[{ on := 23, ground := Ground.data }, { on := 25, ground := Ground.data }], guard := none }) (v := ?_) rfl (by kernel_rfl) (by kernel_rfl) (by kernel_rfl) (fun _ _ _ h => h) (Or.inl ⟨by rfl, ?_⟩) (by assumption) ?_
          rotate_left 1
          · (intro w hSw; (try dsimp only at hSw); go_simp; (try with_reducible rfl))
          try simp only [Act.put, List.setIfInBounds_toArray, List.set_cons_zero, List.set_cons_succ]
          refine wpAnyH_take (i := 27) (oi := { dst := some 137, op := Op.move (Operand.tmp 136), type := 4, pos := "law.go:112", after := #[{ on := 26, ground := Ground.data }, { on := 23, ground := Ground.chain }], guard := none }) (v := ?_) rfl (by kernel_rfl) (by kernel_rfl) (by kernel_rfl) (fun _ _ _ h => h) (Or.inl ⟨by rfl, ?_⟩) (by assumption) ?_
          rotate_left 1
          · (intro w hSw; (try dsimp only at hSw); go_simp; (try with_reducible rfl))
          try simp only [Act.put, List.setIfInBounds_toArray, List.set_cons_zero, List.set_cons_succ]
          refine wpAnyH_take (i := 28) (oi := { dst := some 138, op := Op.load 24 (Operand.tmp 11), type := 24, pos := "law.go:112", after := #[{ on := 27, ground := Ground.guard }], guard := some (27, false) }) (v := ?_) rfl (by kernel_rfl) (by kernel_rfl) (by kernel_rfl) (fun _ _ _ h => h) (Or.inl ⟨by rfl, ?_⟩) (by assumption) ?_
          rotate_left 1
          · (intro w hSw; (try dsimp only at hSw); go_simp; (try with_reducible rfl))
          try simp only [Act.put, List.setIfInBounds_toArray, List.set_cons_zero, List.set_cons_succ]
          refine wpAnyH_take (i := 29) (oi := { dst := some 139, op := Op.fieldAddr 24 (Operand.tmp 2) 0, type := 0, pos := "law.go:112", after := #[{ on := 27, ground := Ground.guard }], guard := some (27, false) }) (v := ?_) rfl (by kernel_rfl) (by kernel_rfl) (by kernel_rfl) (fun _ _ _ h => h) (Or.inl ⟨by rfl, ?_⟩) (by assumption) ?_
          rotate_left 1
          · (intro w hSw; (try dsimp only at hSw); go_simp; (try with_reducible rfl))
          try simp only [Act.put, List.setIfInBounds_toArray, List.set_cons_zero, List.set_cons_succ]
          refine wpAnyH_take (i := 30) (oi := { dst := some 140, op := Op.load 3 (Operand.tmp 139), type := 3, pos := "law.go:112", after := #[{ on := 29, ground := Ground.data }, { on := 27, ground := Ground.guard }], guard := some (27, false) }) (v := ?_) rfl (by kernel_rfl) (by kernel_rfl) (by kernel_rfl) (fun _ _ _ h => h) (Or.inl ⟨by rfl, ?_⟩) (by assumption) ?_
          rotate_left 1
          · (intro w hSw; (try dsimp only at hSw); go_simp; (try with_reducible rfl))
          try simp only [Act.put, List.setIfInBounds_toArray, List.set_cons_zero, List.set_cons_succ]
          refine wpAnyH_take (i := 31) (oi := { dst := some 141, op := Op.move (Operand.tmp 15), type := 22, pos := "law.go:112", after := #[{ on := 27, ground := Ground.guard }], guard := some (27, false) }) (v := ?_) rfl (by kernel_rfl) (by kernel_rfl) (by kernel_rfl) (fun _ _ _ h => h) (Or.inl ⟨by rfl, ?_⟩) (by assumption) ?_
          rotate_left 1
          · (intro w hSw; (try dsimp only at hSw); go_simp; (try with_reducible rfl))
          try simp only [Act.put, List.setIfInBounds_toArray, List.set_cons_zero, List.set_cons_succ]
          refine wpAnyH_take (i := 32) (oi := { dst := some 142, op := Op.move (Operand.tmp 17), type := 22, pos := "law.go:112", after := #[{ on := 27, ground := Ground.guard }], guard := some (27, false) }) (v := ?_) rfl (by kernel_rfl) (by kernel_rfl) (by kernel_rfl) (fun _ _ _ h => h) (Or.inl ⟨by rfl, ?_⟩) (by assumption) ?_
          rotate_left 1
          · (intro w hSw; (try dsimp only at hSw); go_simp; (try with_reducible rfl))
          try simp only [Act.put, List.setIfInBounds_toArray, List.set_cons_zero, List.set_cons_succ]
          refine wpAnyH_ready (rs := [33]) (by kernel_rfl) (by simp) ?_
          refine AllReadyH.cons (o := { dst := some 143, op := Op.call { callee := Callee.value (Operand.func 34), args := #[Operand.tmp 141, Operand.tmp 142], argTypes := #[22, 22] }, type := 22, pos := "law.go:112", after := #[{ on := 31, ground := Ground.data }, { on := 32, ground := Ground.data }, { on := 27, ground := Ground.chain }, { on := 27, ground := Ground.guard }], guard := some (27, false) }) rfl (fun K hK => ?_) AllReadyH.nil
          go_simp
          (go_at_call 34; have hq_ : w13 = w13 := rfl; clear hq_; (refine (common_C K11 A11 c11 E A12 c12 F X _ (Kd.C_below HE.out bel0) HEc.out (Kd.C_below HF.out bel0) HFc.out H11.out).mono ?_); rintro e w14 ⟨A14, c14, rfl, hc14, hC14, hb14⟩; have hw14 := below_step (w := w13) bel0 hb14; replace HB := Aside0.mk (below_step HB.out hw14); replace HG := Aside0.mk (Kd.C_below HG.out hw14); replace HH := Aside0.mk (Kd.C_below HH.out hw14); replace hx0 := cell_move hx0 (fun hlt => hw14.block _ hlt); replace hx1 := cell_move hx1 (fun hlt => hw14.block _ hlt); replace hy0 := cell_move hy0 (fun hlt => hw14.block _ hlt); replace hy1 := cell_move hy1 (fun hlt => hw14.block _ hlt); replace HGS := Aside0.mk (Kd.C_below HGS.out hw14); replace HGT := Aside0.mk (Kd.C_below HGT.out hw14); replace hs0 := cell_move hs0 (fun hlt => hw14.block _ hlt); replace hs1 := cell_move hs1 (fun hlt => hw14.block _ hlt); replace ht0 := cell_move ht0 (fun hlt => hw14.block _ hlt); replace ht1 := cell_move ht1 (fun hlt => hw14.block _ hlt); replace HE := Aside0.mk (Kd.C_below HE.out hw14); replace HF := Aside0.mk (Kd.C_below HF.out hw14); replace HBL := Aside0.mk (below_step HBL.out hw14); have HX := Aside0.mk hC14; have HXc := Aside0.mk hc14; clear hC14 hc14; clear hb14 hw14)
          refine hK.out _ _ ?_ (fun hHeld => ?_)
          · exact ⟨hx0, ht0, ht1⟩
          clear hK K
          try simp only [Act.put, List.setIfInBounds_toArray, List.set_cons_zero, List.set_cons_succ]
          refine wpAnyH_ready (rs := [34]) (by kernel_rfl) (by simp) ?_
          refine AllReadyH.cons (o := { dst := some 144, op := Op.call { callee := Callee.value (Operand.func 14), args := #[Operand.tmp 140, Operand.tmp 143], argTypes := #[3, 22] }, type := 24, pos := "law.go:112", after := #[{ on := 30, ground := Ground.data }, { on := 33, ground := Ground.data }, { on := 33, ground := Ground.chain }, { on := 27, ground := Ground.guard }], guard := some (27, false) }) rfl (fun K hK => ?_) AllReadyH.nil
          go_simp
          (go_at_call 14; have hq_ : w14 = w14 := rfl; clear hq_; (refine (greedy_C K12 a A14 c14 X m1 M2 _ (Kd.C_below HX.out bel0) HXc.out H12.out).mono ?_); rintro e w15 ⟨A15, c15, rfl, hc15, hC15, hb15⟩; have hw15 := below_step (w := w14) bel0 hb15; replace HB := Aside0.mk (below_step HB.out hw15); replace HG := Aside0.mk (Kd.C_below HG.out hw15); replace HH := Aside0.mk (Kd.C_below HH.out hw15); replace hx0 := cell_move hx0 (fun hlt => hw15.block _ hlt); replace hx1 := cell_move hx1 (fun hlt => hw15.block _ hlt); replace hy0 := cell_move hy0 (fun hlt => hw15.block _ hlt); replace hy1 := cell_move hy1 (fun hlt => hw15.block _ hlt); replace HGS := Aside0.mk (Kd.C_below HGS.out hw15); replace HGT := Aside0.mk (Kd.C_below HGT.out hw15); replace hs0 := cell_move hs0 (fun hlt => hw15.block _ hlt); replace hs1 := cell_move hs1 (fun hlt => hw15.block _ hlt); replace ht0 := cell_move ht0 (fun hlt => hw15.block _ hlt); replace ht1 := cell_move ht1 (fun hlt => hw15.block _ hlt); replace HE := Aside0.mk (Kd.C_below HE.out hw15); replace HF := Aside0.mk (Kd.C_below HF.out hw15); replace HBL := Aside0.mk (below_step HBL.out hw15); replace HX := Aside0.mk (Kd.C_below HX.out hw15); have HY := Aside0.mk hC15; have HYc := Aside0.mk hc15; clear hC15 hc15; clear hb15 hw15)
          refine hK.out _ _ ?_ (fun hHeld => ?_)
          · exact ⟨hx0, ht0, ht1⟩
          clear hK K
          try simp only [Act.put, List.setIfInBounds_toArray, List.set_cons_zero, List.set_cons_succ]
          refine wpAnyH_ready (rs := [35]) (by kernel_rfl) (by simp) ?_
          refine AllReadyH.cons (o := { dst := some 145, op := Op.call { callee := Callee.value (Operand.func 13), args := #[Operand.tmp 138, Operand.tmp 144], argTypes := #[24, 24] }, type := 4, pos := "law.go:112", after := #[{ on := 28, ground := Ground.data }, { on := 34, ground := Ground.data }, { on := 34, ground := Ground.chain }, { on := 27, ground := Ground.guard }], guard := some (27, false) }) rfl (fun K hK => ?_) AllReadyH.nil
          go_simp
          (go_at_call 13; have hq_ : w15 = w15 := rfl; clear hq_; (refine (PRf.galoisref23_Equal.calls K13 m1 At ct M2 m1 A15 c15 M2 true _ (Kd.C_below HGT.out bel0) HGTc.out (Kd.C_below HY.out bel0) HYc.out H13.out).mono ?_); rintro e w16 ⟨rfl, hb16⟩; have hw16 := below_step (w := w15) bel0 hb16; replace HB := Aside0.mk (below_step HB.out hw16); replace HG := Aside0.mk (Kd.C_below HG.out hw16); replace HH := Aside0.mk (Kd.C_below HH.out hw16); replace hx0 := cell_move hx0 (fun hlt => hw16.block _ hlt); replace hx1 := cell_move hx1 (fun hlt => hw16.block _ hlt); replace hy0 := cell_move hy0 (fun hlt => hw16.block _ hlt); replace hy1 := cell_move hy1 (fun hlt => hw16.block _ hlt); replace HGS := Aside0.mk (Kd.C_below HGS.out hw16); replace HGT := Aside0.mk (Kd.C_below HGT.out hw16); replace hs0 := cell_move hs0 (fun hlt => hw16.block _ hlt); replace hs1 := cell_move hs1 (fun hlt => hw16.block _ hlt); replace ht0 := cell_move ht0 (fun hlt => hw16.block _ hlt); replace ht1 := cell_move ht1 (fun hlt => hw16.block _ hlt); replace HE := Aside0.mk (Kd.C_below HE.out hw16); replace HF := Aside0.mk (Kd.C_below HF.out hw16); replace HBL := Aside0.mk (below_step HBL.out hw16); replace HX := Aside0.mk (Kd.C_below HX.out hw16); replace HY := Aside0.mk (Kd.C_below HY.out hw16); clear hb16 hw16)
          refine hK.out _ _ ?_ (fun hHeld => ?_)
          · exact ⟨hx0, ht0, ht1⟩
          clear hK K
          try simp only [Act.put, List.setIfInBounds_toArray, List.set_cons_zero, List.set_cons_succ]
          refine wpAnyH_take (i := 36) (oi := { dst := some 146, op := Op.unOp UnOp.not 4 (Operand.tmp 145), type := 4, pos := "law.go:112", after := #[{ on := 35, ground := Ground.data }, { on := 27, ground := Ground.guard }], guard := some (27, false) }) (v := ?_) rfl (by kernel_rfl) (by kernel_rfl) (by kernel_rfl) (fun _ _ _ h => h) (Or.inl ⟨by rfl, ?_⟩) (by assumption) ?_
          rotate_left 1
          · (intro w hSw; (try dsimp only at hSw); go_simp; (try with_reducible rfl))
          try simp only [Act.put, List.setIfInBounds_toArray, List.set_cons_zero, List.set_cons_succ]
          refine wpAnyH_take (i := 37) (oi := { dst := some 147, op := Op.pick (Operand.tmp 137) (Operand.const (Value.bool true)) (Operand.tmp 146), type := 4, pos := "law.go:112", after := #[{ on := 27, ground := Ground.data }, { on := 36, ground := Ground.data }], guard := none }) (v := ?_) rfl (by kernel_rfl) (by kernel_rfl) (by kernel_rfl) (fun _ _ _ h => h) (Or.inl ⟨by rfl, ?_⟩) (by assumption) ?_
          rotate_left 1
          · (intro w hSw; (try dsimp only at hSw); go_simp; (try with_reducible rfl))
          try simp only [Act.put, List.setIfInBounds_toArray, List.set_cons_zero, List.set_cons_succ]
          refine wpAnyH_done (by kernel_rfl) ?_ _
          go_wp2_with fail
          go_meet
          exact ⟨(by first | rfl | simp), HBL⟩
        · rcases hcs with ⟨rfl, rfl, rfl, hle⟩ | ⟨rfl, rfl, rfl, hle⟩
          all_goals
            refine wp_region_held_drew (S := (fun w' => w'.cell? ⟨w.heap.size, 0, none⟩ = some (.int .i64 a) ∧ w'.cell? ⟨tb, 0, none⟩ = some (.int .i64 m1) ∧ w'.cell? ⟨tb, 1, none⟩ = some (.slice At M2.length ct))) (by kernel_rfl) ?_ (fun hHeld => ?_)
            · exact ⟨hx0, ht0, ht1⟩
            refine wpAnyH_take (i := 0) (oi := { dst := some 110, op := Op.move (Operand.tmp 6), type := 27, pos := "law.go:112", after := #[], guard := none }) (v := ?_) rfl (by kernel_rfl) (by kernel_rfl) (by kernel_rfl) (fun _ _ _ h => h) (Or.inl ⟨by rfl, ?_⟩) (by assumption) ?_
            rotate_left 1
            · (intro w hSw; (try dsimp only at hSw); go_simp; (try with_reducible rfl))
            try simp only [Act.put, List.setIfInBounds_toArray, List.set_cons_zero, List.set_cons_succ]
            refine wpAnyH_take (i := 1) (oi := { dst := some 111, op := Op.binOp BinOp.neq 27 (Operand.tmp 110) (Operand.const (Value.int IntKind.i64 0)) 27, type := 4, pos := "law.go:112", after := #[{ on := 0, ground := Ground.data }], guard := none }) (v := ?_) rfl (by kernel_rfl) (by kernel_rfl) (by kernel_rfl) (fun _ _ _ h => h) (Or.inl ⟨by rfl, ?_⟩) (by assumption) ?_
            rotate_left 1
            · (intro w hSw; (try dsimp only at hSw); go_simp; (try with_reducible rfl))
            try simp only [Act.put, List.setIfInBounds_toArray, List.set_cons_zero, List.set_cons_succ]
            refine wpAnyH_take (i := 2) (oi := { dst := some 112, op := Op.move (Operand.tmp 111), type := 4, pos := "law.go:112", after := #[{ on := 1, ground := Ground.data }], guard := none }) (v := ?_) rfl (by kernel_rfl) (by kernel_rfl) (by kernel_rfl) (fun _ _ _ h => h) (Or.inl ⟨by rfl, ?_⟩) (by assumption) ?_
            rotate_left 1
            · (intro w hSw; (try dsimp only at hSw); go_simp; (try with_reducible rfl))
            try simp only [Act.put, List.setIfInBounds_toArray, List.set_cons_zero, List.set_cons_succ]
            refine wpAnyH_take (i := 3) (oi := { dst := some 113, op := Op.move (Operand.tmp 5), type := 4, pos := "law.go:112", after := #[{ on := 2, ground := Ground.guard }], guard := some (2, false) }) (v := ?_) rfl (by kernel_rfl) (by kernel_rfl) (by kernel_rfl) (fun _ _ _ h => h) (Or.inl ⟨by rfl, ?_⟩) (by assumption) ?_
            rotate_left 1
            · (intro w hSw; (try dsimp only at hSw); go_simp; (try with_reducible rfl))
            try simp only [Act.put, List.setIfInBounds_toArray, List.set_cons_zero, List.set_cons_succ]
            refine wpAnyH_take (i := 4) (oi := { dst := some 114, op := Op.move (Operand.tmp 19), type := 4, pos := "law.go:112", after := #[{ on := 2, ground := Ground.guard }], guard := some (2, false) }) (v := ?_) rfl (by kernel_rfl) (by kernel_rfl) (by kernel_rfl) (fun _ _ _ h => h) (Or.inl ⟨by rfl, ?_⟩) (by assumption) ?_
            rotate_left 1
            · (intro w hSw; (try dsimp only at hSw); go_simp; (try with_reducible rfl))
            try simp only [Act.put, List.setIfInBounds_toArray, List.set_cons_zero, List.set_cons_succ]
            refine wpAnyH_take (i := 5) (oi := { dst := some 115, op := Op.binOp BinOp.neq 4 (Operand.tmp 113) (Operand.tmp 114) 4, type := 4, pos := "law.go:112", after := #[{ on := 3, ground := Ground.data }, { on := 4, ground := Ground.data }, { on := 2, ground := Ground.guard }], guard := some (2, false) }) (v := ?_) rfl (by kernel_rfl) (by kernel_rfl) (by kernel_rfl) (fun _ _ _ h => h) (Or.inl ⟨by rfl, ?_⟩) (by assumption) ?_
            rotate_left 1
            · (intro w hSw; (try dsimp only at hSw); go_simp; (try with_reducible rfl))
            try simp only [Act.put, List.setIfInBounds_toArray, List.set_cons_zero, List.set_cons_succ]
            refine wpAnyH_take (i := 6) (oi := { dst := some 116, op := Op.pick (Operand.tmp 112) (Operand.const (Value.bool true)) (Operand.tmp 115), type := 4, pos := "law.go:112", after := #[{ on := 2, ground := Ground.data }, { on := 5, ground := Ground.data }], guard := none }) (v := ?_) rfl (by kernel_rfl) (by kernel_rfl) (by kernel_rfl) (fun _ _ _ h => h) (Or.inl ⟨by rfl, ?_⟩) (by assumption) ?_
            rotate_left 1
            · (intro w hSw; (try dsimp only at hSw); go_simp; (try with_reducible rfl))
            try simp only [Act.put, List.setIfInBounds_toArray, List.set_cons_zero, List.set_cons_succ]
            refine wpAnyH_take (i := 7) (oi := { dst := some 117, op := Op.move (Operand.tmp 116), type := 4, pos := "law.go:112", after := #[{ on := 6, ground := Ground.data }, { on := 2, ground := Ground.chain }], guard := none }) (v := ?_) rfl (by kernel_rfl) (by kernel_rfl) (by kernel_rfl) (fun _ _ _ h => h) (Or.inl ⟨by rfl, ?_⟩) (by assumption) ?_
            rotate_left 1
            · (intro w hSw; (try dsimp only at hSw); go_simp; (try with_reducible rfl))
            try simp only [Act.put, List.setIfInBounds_toArray, List.set_cons_zero, List.set_cons_succ]
            refine wpAnyH_take (i := 8) (oi := { dst := some 118, op := Op.move (Operand.tmp 8), type := 27, pos := "law.go:112", after := #[{ on := 7, ground := Ground.guard }], guard := some (7, false) }) (v := ?_) rfl (by kernel_rfl) (by kernel_rfl) (by kernel_rfl) (fun _ _ _ h => h) (Or.inl ⟨by rfl, ?_⟩) (by assumption) ?_
            rotate_left 1
            · (intro w hSw; (try dsimp only at hSw); go_simp; (try with_reducible rfl))
            try simp only [Act.put, List.setIfInBounds_toArray, List.set_cons_zero, List.set_cons_succ]
            refine wpAnyH_take (i := 9) (oi := { dst := some 119, op := Op.binOp BinOp.neq 27 (Operand.tmp 118) (Operand.const (Value.int IntKind.i64 0)) 27, type := 4, pos := "law.go:112", after := #[{ on := 8, ground := Ground.data }, { on := 7, ground := Ground.guard }], guard := some (7, false) }) (v := ?_) rfl (by kernel_rfl) (by kernel_rfl) (by kernel_rfl) (fun _ _ _ h => h) (Or.inl ⟨by rfl, ?_⟩) (by assumption) ?_
            rotate_left 1
            · (intro w hSw; (try dsimp only at hSw); go_simp; (try with_reducible rfl))
            try simp only [Act.put, List.setIfInBounds_toArray, List.set_cons_zero, List.set_cons_succ]
            refine wpAnyH_take (i := 10) (oi := { dst := some 120, op := Op.pick (Operand.tmp 117) (Operand.const (Value.bool true)) (Operand.tmp 119), type := 4, pos := "law.go:112", after := #[{ on := 7, ground := Ground.data }, { on := 9, ground := Ground.data }], guard := none }) (v := ?_) rfl (by kernel_rfl) (by kernel_rfl) (by kernel_rfl) (fun _ _ _ h => h) (Or.inl ⟨by rfl, ?_⟩) (by assumption) ?_
            rotate_left 1
            · (intro w hSw; (try dsimp only at hSw); go_simp; (try with_reducible rfl))
            try simp only [Act.put, List.setIfInBounds_toArray, List.set_cons_zero, List.set_cons_succ]
            refine wpAnyH_take (i := 11) (oi := { dst := some 121, op := Op.move (Operand.tmp 120), type := 4, pos := "law.go:112", after := #[{ on := 10, ground := Ground.data }, { on := 7, ground := Ground.chain }], guard := none }) (v := ?_) rfl (by kernel_rfl) (by kernel_rfl) (by kernel_rfl) (fun _ _ _ h => h) (Or.inl ⟨by rfl, ?_⟩) (by assumption) ?_
            rotate_left 1
            · (intro w hSw; (try dsimp only at hSw); go_simp; (try with_reducible rfl))
            try simp only [Act.put, List.setIfInBounds_toArray, List.set_cons_zero, List.set_cons_succ]
            refine wpAnyH_take (i := 12) (oi := { dst := some 122, op := Op.move (Operand.tmp 7), type := 4, pos := "law.go:112", after := #[{ on := 11, ground := Ground.guard }], guard := some (11, false) }) (v := ?_) rfl (by kernel_rfl) (by kernel_rfl) (by kernel_rfl) (fun _ _ _ h => h) (Or.inl ⟨by rfl, ?_⟩) (by assumption) ?_
            rotate_left 1
            · (intro w hSw; (try dsimp only at hSw); go_simp; (try with_reducible rfl))
            try simp only [Act.put, List.setIfInBounds_toArray, List.set_cons_zero, List.set_cons_succ]
            refine wpAnyH_take (i := 13) (oi := { dst := some 123, op := Op.move (Operand.tmp 19), type := 4, pos := "law.go:112", after := #[{ on := 11, ground := Ground.guard }], guard := some (11, false) }) (v := ?_) rfl (by kernel_rfl) (by kernel_rfl) (by kernel_rfl) (fun _ _ _ h => h) (Or.inl ⟨by rfl, ?_⟩) (by assumption) ?_
            rotate_left 1
            · (intro w hSw; (try dsimp only at hSw); go_simp; (try with_reducible rfl))
            try simp only [Act.put, List.setIfInBounds_toArray, List.set_cons_zero, List.set_cons_succ]
            refine wpAnyH_take (i := 14) (oi := { dst := some 124, op := Op.move (Operand.tmp 123), type := 4, pos := "law.go:112", after := #[{ on := 13, ground := Ground.data }, { on := 11, ground := Ground.chain }, { on := 11, ground := Ground.guard }], guard := some (11, false) }) (v := ?_) rfl (by kernel_rfl) (by kernel_rfl) (by kernel_rfl) (fun _ _ _ h => h) (Or.inl ⟨by rfl, ?_⟩) (by assumption) ?_
            rotate_left 1
            · (intro w hSw; (try dsimp only at hSw); go_simp; (try with_reducible rfl))
            try simp only [Act.put, List.setIfInBounds_toArray, List.set_cons_zero, List.set_cons_succ]
            refine wpAnyH_take (i := 15) (oi := { dst := some 125, op := Op.move (Operand.tmp 15), type := 22, pos := "law.go:112", after := #[{ on := 14, ground := Ground.guard }], guard := some (14, true) }) (v := ?_) rfl (by kernel_rfl) (by kernel_rfl) (by kernel_rfl) (fun _ _ _ h => h) (Or.inl ⟨by rfl, ?_⟩) (by assumption) ?_
            rotate_left 1
            · (intro w hSw; (try dsimp only at hSw); go_simp; (try with_reducible rfl))
            try simp only [Act.put, List.setIfInBounds_toArray, List.set_cons_zero, List.set_cons_succ]
            refine wpAnyH_take (i := 16) (oi := { dst := some 126, op := Op.call { callee := Callee.builtin Builtin.len, args := #[Operand.tmp 125], argTypes := #[22] }, type := 3, pos := "law.go:112", after := #[{ on := 15, ground := Ground.data }, { on := 14, ground := Ground.guard }], guard := some (14, true) }) (v := ?_) rfl (by kernel_rfl) (by kernel_rfl) (by kernel_rfl) (fun _ _ _ h => h) (Or.inl ⟨by rfl, ?_⟩) (by assumption) ?_
            rotate_left 1
            · (intro w hSw; (try dsimp only at hSw); go_simp; (try with_reducible rfl))
            try simp only [Act.put, List.setIfInBounds_toArray, List.set_cons_zero, List.set_cons_succ]
            refine wpAnyH_take (i := 17) (oi := { dst := some 127, op := Op.move (Operand.tmp 17), type := 22, pos := "law.go:112", after := #[{ on := 14, ground := Ground.guard }], guard := some (14, true) }) (v := ?_) rfl (by kernel_rfl) (by kernel_rfl) (by kernel_rfl) (fun _ _ _ h => h) (Or.inl ⟨by rfl, ?_⟩) (by assumption) ?_
            rotate_left 1
            · (intro w hSw; (try dsimp only at hSw); go_simp; (try with_reducible rfl))
            try simp only [Act.put, List.setIfInBounds_toArray, List.set_cons_zero, List.set_cons_succ]
            refine wpAnyH_take (i := 18) (oi := { dst := some 128, op := Op.call { callee := Callee.builtin Builtin.len, args := #[Operand.tmp 127], argTypes := #[22] }, type := 3, pos := "law.go:112", after := #[{ on := 17, ground := Ground.data }, { on := 14, ground := Ground.guard }], guard := some (14, true) }) (v := ?_) rfl (by kernel_rfl) (by kernel_rfl) (by kernel_rfl) (fun _ _ _ h => h) (Or.inl ⟨by rfl, ?_⟩) (by assumption) ?_
            rotate_left 1
            · (intro w hSw; (try dsimp only at hSw); go_simp; (try with_reducible rfl))
            try simp only [Act.put, List.setIfInBounds_toArray, List.set_cons_zero, List.set_cons_succ]
            refine wpAnyH_take (i := 19) (oi := { dst := some 129, op := Op.binOp BinOp.eql 3 (Operand.tmp 126) (Operand.tmp 128) 3, type := 4, pos := "law.go:112", after := #[{ on := 16, ground := Ground.data }, { on := 18, ground := Ground.data }, { on := 14, ground := Ground.guard }], guard := some (14, true) }) (v := ?_) rfl (by kernel_rfl) (by kernel_rfl) (by kernel_rfl) (fun _ _ _ h => h) (Or.inl ⟨by rfl, ?_⟩) (by assumption) ?_
            rotate_left 1
            · (intro w hSw; (try dsimp only at hSw); go_simp; (try with_reducible rfl))
            try simp only [Act.put, List.setIfInBounds_toArray, List.set_cons_zero, List.set_cons_succ]
            refine wpAnyH_take (i := 20) (oi := { dst := some 130, op := Op.pick (Operand.tmp 124) (Operand.tmp 129) (Operand.const (Value.bool false)), type := 4, pos := "law.go:112", after := #[{ on := 14, ground := Ground.data }, { on := 19, ground := Ground.data }, { on := 11, ground := Ground.guard }], guard := some (11, false) }) (v := ?_) rfl (by kernel_rfl) (by kernel_rfl) (by kernel_rfl) (fun _ _ _ h => h) (Or.inl ⟨by rfl, ?_⟩) (by assumption) ?_
            rotate_left 1
            · (intro w hSw; (try dsimp only at hSw); go_simp; (try with_reducible rfl))
            try simp only [Act.put, List.setIfInBounds_toArray, List.set_cons_zero, List.set_cons_succ]
            refine wpAnyH_take (i := 21) (oi := { dst := some 131, op := Op.binOp BinOp.neq 4 (Operand.tmp 122) (Operand.tmp 130) 4, type := 4, pos := "law.go:112", after := #[{ on := 12, ground := Ground.data }, { on := 20, ground := Ground.data }, { on := 11, ground := Ground.guard }], guard := some (11, false) }) (v := ?_) rfl (by kernel_rfl) (by kernel_rfl) (by kernel_rfl) (fun _ _ _ h => h) (Or.inl ⟨by rfl, ?_⟩) (by assumption) ?_
            rotate_left 1
            · (intro w hSw; (try dsimp only at hSw); go_simp; (try with_reducible rfl))
            try simp only [Act.put, List.setIfInBounds_toArray, List.set_cons_zero, List.set_cons_succ]
            refine wpAnyH_take (i := 22) (oi := { dst := some 132, op := Op.pick (Operand.tmp 121) (Operand.const (Value.bool true)) (Operand.tmp 131), type := 4, pos := "law.go:112", after := #[{ on := 11, ground := Ground.data }, { on := 21, ground := Ground.data }], guard := none }) (v := ?_) rfl (by kernel_rfl) (by kernel_rfl) (by kernel_rfl) (fun _ _ _ h => h) (Or.inl ⟨by rfl, ?_⟩) (by assumption) ?_
            rotate_left 1
            · (intro w hSw; (try dsimp only at hSw); go_simp; (try with_reducible rfl))
            try simp only [Act.put, List.setIfInBounds_toArray, List.set_cons_zero, List.set_cons_succ]
            refine wpAnyH_take (i := 23) (oi := { dst := some 133, op := Op.move (Operand.tmp 132), type := 4, pos := "law.go:112", after := #[{ on := 22, ground := Ground.data }, { on := 14, ground := Ground.chain }], guard := none }) (v := ?_) rfl (by kernel_rfl) (by kernel_rfl) (by kernel_rfl) (fun _ _ _ h => h) (Or.inl ⟨by rfl, ?_⟩) (by assumption) ?_
            rotate_left 1
            · (intro w hSw; (try dsimp only at hSw); go_simp; (try with_reducible rfl))
            try simp only [Act.put, List.setIfInBounds_toArray, List.set_cons_zero, List.set_cons_succ]
            refine wpAnyH_take (i := 24) (oi := { dst := some 134, op := Op.move (Operand.tmp 12), type := 27, pos := "law.go:112", after := #[{ on := 23, ground := Ground.guard }], guard := some (23, false) }) (v := ?_) rfl (by kernel_rfl) (by kernel_rfl) (by kernel_rfl) (fun _ _ _ h => h) (Or.inl ⟨by rfl, ?_⟩) (by assumption) ?_
            rotate_left 1
            · (intro w hSw; (try dsimp only at hSw); go_simp; (try with_reducible rfl))
            try simp only [Act.put, List.setIfInBounds_toArray, List.set_cons_zero, List.set_cons_succ]
            refine wpAnyH_take (i := 25) (oi := { dst := some 135, op := Op.binOp BinOp.neq 27 (Operand.tmp 134) (Operand.const (Value.int IntKind.i64 0)) 27, type := 4, pos := "law.go:112", after := #[{ on := 24, ground := Ground.data }, { on := 23, ground := Ground.guard }], guard := some (23, false) }) (v := ?_) rfl (by kernel_rfl) (by kernel_rfl) (by kernel_rfl) (fun _ _ _ h => h) (Or.inl ⟨by rfl, ?_⟩) (by assumption) ?_
            rotate_left 1
            · (intro w hSw; (try dsimp only at hSw); go_simp; (try with_reducible rfl))
            try simp only [Act.put, List.setIfInBounds_toArray, List.set_cons_zero, List.set_cons_succ]
            refine wpAnyH_take (i := 26) (oi := { dst := some 136, op := Op.pick (Operand.tmp 133) (Operand.const (Value.bool true)) (Operand.tmp 135), type := 4, pos := "law.go:112", after := #[{ on := 23, ground := Ground.data }, { on := 25, ground := Ground.data }], guard := none }) (v := ?_) rfl (by kernel_rfl) (by kernel_rfl) (by kernel_rfl) (fun _ _ _ h => h) (Or.inl ⟨by rfl, ?_⟩) (by assumption) ?_
            rotate_left 1
            · (intro w hSw; (try dsimp only at hSw); go_simp; (try with_reducible rfl))
            try simp only [Act.put, List.setIfInBounds_toArray, List.set_cons_zero, List.set_cons_succ]
            refine wpAnyH_take (i := 27) (oi := { dst := some 137, op := Op.move (Operand.tmp 136), type := 4, pos := "law.go:112", after := #[{ on := 26, ground := Ground.data }, { on := 23, ground := Ground.chain }], guard := none }) (v := ?_) rfl (by kernel_rfl) (by kernel_rfl) (by kernel_rfl) (fun _ _ _ h => h) (Or.inl ⟨by rfl, ?_⟩) (by assumption) ?_
            rotate_left 1
            · (intro w hSw; (try dsimp only at hSw); go_simp; (try with_reducible rfl))
            try simp only [Act.put, List.setIfInBounds_toArray, List.set_cons_zero, List.set_cons_succ]
            refine wpAnyH_take (i := 28) (oi := { dst := some 138, op := Op.load 24 (Operand.tmp 11), type := 24, pos := "law.go:112", after := #[{ on := 27, ground := Ground.guard }], guard := some (27, false) }) (v := ?_) rfl (by kernel_rfl) (by kernel_rfl) (by kernel_rfl) (fun _ _ _ h => h) (Or.inl ⟨by rfl, ?_⟩) (by assumption) ?_
            rotate_left 1
            · (intro w hSw; (try dsimp only at hSw); go_simp; (try with_reducible rfl))
            try simp only [Act.put, List.setIfInBounds_toArray, List.set_cons_zero, List.set_cons_succ]
            refine wpAnyH_take (i := 29) (oi := { dst := some 139, op := Op.fieldAddr 24 (Operand.tmp 2) 0, type := 0, pos := "law.go:112", after := #[{ on := 27, ground := Ground.guard }], guard := some (27, false) }) (v := ?_) rfl (by kernel_rfl) (by kernel_rfl) (by kernel_rfl) (fun _ _ _ h => h) (Or.inl ⟨by rfl, ?_⟩) (by assumption) ?_
            rotate_left 1
            · (intro w hSw; (try dsimp only at hSw); go_simp; (try with_reducible rfl))
            try simp only [Act.put, List.setIfInBounds_toArray, List.set_cons_zero, List.set_cons_succ]
            refine wpAnyH_take (i := 30) (oi := { dst := some 140, op := Op.load 3 (Operand.tmp 139), type := 3, pos := "law.go:112", after := #[{ on := 29, ground := Ground.data }, { on := 27, ground := Ground.guard }], guard := some (27, false) }) (v := ?_) rfl (by kernel_rfl) (by kernel_rfl) (by kernel_rfl) (fun _ _ _ h => h) (Or.inl ⟨by rfl, ?_⟩) (by assumption) ?_
            rotate_left 1
            · (intro w hSw; (try dsimp only at hSw); go_simp; (try with_reducible rfl))
            try simp only [Act.put, List.setIfInBounds_toArray, List.set_cons_zero, List.set_cons_succ]
            refine wpAnyH_take (i := 31) (oi := { dst := some 141, op := Op.move (Operand.tmp 15), type := 22, pos := "law.go:112", after := #[{ on := 27, ground := Ground.guard }], guard := some (27, false) }) (v := ?_) rfl (by kernel_rfl) (by kernel_rfl) (by kernel_rfl) (fun _ _ _ h => h) (Or.inl ⟨by rfl, ?_⟩) (by assumption) ?_
            rotate_left 1
            · (intro w hSw; (try dsimp only at hSw); go_simp; (try with_reducible rfl))
            try simp only [Act.put, List.setIfInBounds_toArray, List.set_cons_zero, List.set_cons_succ]
            refine wpAnyH_take (i := 32) (oi := { dst := some 142, op := Op.move (Operand.tmp 17), type := 22, pos := "law.go:112", after := #[{ on := 27, ground := Ground.guard }], guard := some (27, false) }) (v := ?_) rfl (by kernel_rfl) (by kernel_rfl) (by kernel_rfl) (fun _ _ _ h => h) (Or.inl ⟨by rfl, ?_⟩) (by assumption) ?_
            rotate_left 1
            · (intro w hSw; (try dsimp only at hSw); go_simp; (try with_reducible rfl))
            try simp only [Act.put, List.setIfInBounds_toArray, List.set_cons_zero, List.set_cons_succ]
            refine wpAnyH_ready (rs := [33]) (by kernel_rfl) (by simp) ?_
            refine AllReadyH.cons (o := { dst := some 143, op := Op.call { callee := Callee.value (Operand.func 34), args := #[Operand.tmp 141, Operand.tmp 142], argTypes := #[22, 22] }, type := 22, pos := "law.go:112", after := #[{ on := 31, ground := Ground.data }, { on := 32, ground := Ground.data }, { on := 27, ground := Ground.chain }, { on := 27, ground := Ground.guard }], guard := some (27, false) }) rfl (fun K hK => ?_) AllReadyH.nil
            go_simp
            (go_at_call 34; have hq_ : w13 = w13 := rfl; clear hq_; (refine (common_C K11 A11 c11 E A12 c12 F X _ (Kd.C_below HE.out bel0) HEc.out (Kd.C_below HF.out bel0) HFc.out H11.out).mono ?_); rintro e w14 ⟨A14, c14, rfl, hc14, hC14, hb14⟩; have hw14 := below_step (w := w13) bel0 hb14; replace HB := Aside0.mk (below_step HB.out hw14); replace HG := Aside0.mk (Kd.C_below HG.out hw14); replace HH := Aside0.mk (Kd.C_below HH.out hw14); replace hx0 := cell_move hx0 (fun hlt => hw14.block _ hlt); replace hx1 := cell_move hx1 (fun hlt => hw14.block _ hlt); replace hy0 := cell_move hy0 (fun hlt => hw14.block _ hlt); replace hy1 := cell_move hy1 (fun hlt => hw14.block _ hlt); replace HGS := Aside0.mk (Kd.C_below HGS.out hw14); replace HGT := Aside0.mk (Kd.C_below HGT.out hw14); replace hs0 := cell_move hs0 (fun hlt => hw14.block _ hlt); replace hs1 := cell_move hs1 (fun hlt => hw14.block _ hlt); replace ht0 := cell_move ht0 (fun hlt => hw14.block _ hlt); replace ht1 := cell_move ht1 (fun hlt => hw14.block _ hlt); replace HE := Aside0.mk (Kd.C_below HE.out hw14); replace HF := Aside0.mk (Kd.C_below HF.out hw14); replace HBL := Aside0.mk (below_step HBL.out hw14); have HX := Aside0.mk hC14; have HXc := Aside0.mk hc14; clear hC14 hc14; clear hb14 hw14)
            refine hK.out _ _ ?_ (fun hHeld => ?_)
            · exact ⟨hx0, ht0, ht1⟩
            clear hK K
            try simp only [Act.put, List.setIfInBounds_toArray, List.set_cons_zero, List.set_cons_succ]
            refine wpAnyH_ready (rs := [34]) (by kernel_rfl) (by simp) ?_
            refine AllReadyH.cons (o := { dst := some 144, op := Op.call { callee := Callee.value (Operand.func 14), args := #[Operand.tmp 140, Operand.tmp 143], argTypes := #[3, 22] }, type := 24, pos := "law.go:112", after := #[{ on := 30, ground := Ground.data }, { on := 33, ground := Ground.data }, { on := 33, ground := Ground.chain }, { on := 27, ground := Ground.guard }], guard := some (27, false) }) rfl (fun K hK => ?_) AllReadyH.nil
            go_simp
            (go_at_call 14; have hq_ : w14 = w14 := rfl; clear hq_; (refine (greedy_C K12 a A14 c14 X m1 M2 _ (Kd.C_below HX.out bel0) HXc.out H12.out).mono ?_); rintro e w15 ⟨A15, c15, rfl, hc15, hC15, hb15⟩; have hw15 := below_step (w := w14) bel0 hb15; replace HB := Aside0.mk (below_step HB.out hw15); replace HG := Aside0.mk (Kd.C_below HG.out hw15); replace HH := Aside0.mk (Kd.C_below HH.out hw15); replace hx0 := cell_move hx0 (fun hlt => hw15.block _ hlt); replace hx1 := cell_move hx1 (fun hlt => hw15.block _ hlt); replace hy0 := cell_move hy0 (fun hlt => hw15.block _ hlt); replace hy1 := cell_move hy1 (fun hlt => hw15.block _ hlt); replace HGS := Aside0.mk (Kd.C_below HGS.out hw15); replace HGT := Aside0.mk (Kd.C_below HGT.out hw15); replace hs0 := cell_move hs0 (fun hlt => hw15.block _ hlt); replace hs1 := cell_move hs1 (fun hlt => hw15.block _ hlt); replace ht0 := cell_move ht0 (fun hlt => hw15.block _ hlt); replace ht1 := cell_move ht1 (fun hlt => hw15.block _ hlt); replace HE := Aside0.mk (Kd.C_below HE.out hw15); replace HF := Aside0.mk (Kd.C_below HF.out hw15); replace HBL := Aside0.mk (below_step HBL.out hw15); replace HX := Aside0.mk (Kd.C_below HX.out hw15); have HY := Aside0.mk hC15; have HYc := Aside0.mk hc15; clear hC15 hc15; clear hb15 hw15)
            refine hK.out _ _ ?_ (fun hHeld => ?_)
            · exact ⟨hx0, ht0, ht1⟩
            clear hK K
            try simp only [Act.put, List.setIfInBounds_toArray, List.set_cons_zero, List.set_cons_succ]
            refine wpAnyH_ready (rs := [35]) (by kernel_rfl) (by simp) ?_
            refine AllReadyH.cons (o := { dst := some 145, op := Op.call { callee := Callee.value (Operand.func 13), args := #[Operand.tmp 138, Operand.tmp 144], argTypes := #[24, 24] }, type := 4, pos := "law.go:112", after := #[{ on := 28, ground := Ground.data }, { on := 34, ground := Ground.data }, { on := 34, ground := Ground.chain }, { on := 27, ground := Ground.guard }], guard := some (27, false) }) rfl (fun K hK => ?_) AllReadyH.nil
            go_simp
            (go_at_call 13; have hq_ : w15 = w15 := rfl; clear hq_; (refine (PRf.galoisref23_Equal.calls K13 m1 At ct M2 m1 A15 c15 M2 true _ (Kd.C_below HGT.out bel0) HGTc.out (Kd.C_below HY.out bel0) HYc.out H13.out).mono ?_); rintro e w16 ⟨rfl, hb16⟩; have hw16 := below_step (w := w15) bel0 hb16; replace HB := Aside0.mk (below_step HB.out hw16); replace HG := Aside0.mk (Kd.C_below HG.out hw16); replace HH := Aside0.mk (Kd.C_below HH.out hw16); replace hx0 := cell_move hx0 (fun hlt => hw16.block _ hlt); replace hx1 := cell_move hx1 (fun hlt => hw16.block _ hlt); replace hy0 := cell_move hy0 (fun hlt => hw16.block _ hlt); replace hy1 := cell_move hy1 (fun hlt => hw16.block _ hlt); replace HGS := Aside0.mk (Kd.C_below HGS.out hw16); replace HGT := Aside0.mk (Kd.C_below HGT.out hw16); replace hs0 := cell_move hs0 (fun hlt => hw16.block _ hlt); replace hs1 := cell_move hs1 (fun hlt => hw16.block _ hlt); replace ht0 := cell_move ht0 (fun hlt => hw16.block _ hlt); replace ht1 := cell_move ht1 (fun hlt => hw16.block _ hlt); replace HE := Aside0.mk (Kd.C_below HE.out hw16); replace HF := Aside0.mk (Kd.C_below HF.out hw16); replace HBL := Aside0.mk (below_step HBL.out hw16); replace HX := Aside0.mk (Kd.C_below HX.out hw16); replace HY := Aside0.mk (Kd.C_below HY.out hw16); clear hb16 hw16)
            refine hK.out _ _ ?_ (fun hHeld => ?_)
            · exact ⟨hx0, ht0, ht1⟩
            clear hK K
            try simp only [Act.put, List.setIfInBounds_toArray, List.set_cons_zero, List.set_cons_succ]
            refine wpAnyH_take (i := 36) (oi := { dst := some 146, op := Op.unOp UnOp.not 4 (Operand.tmp 145), type := 4, pos := "law.go:112", after := #[{ on := 35, ground := Ground.data }, { on := 27, ground := Ground.guard }], guard := some (27, false) }) (v := ?_) rfl (by kernel_rfl) (by kernel_rfl) (by kernel_rfl) (fun _ _ _ h => h) (Or.inl ⟨by rfl, ?_⟩) (by assumption) ?_
            rotate_left 1
            · (intro w hSw; (try dsimp only at hSw); go_simp; (try with_reducible rfl))
            try simp only [Act.put, List.setIfInBounds_toArray, List.set_cons_zero, List.set_cons_succ]
            refine wpAnyH_take (i := 37) (oi := { dst := some 147, op := Op.pick (Operand.tmp 137) (Operand.const (Value.bool true)) (Operand.tmp 146), type := 4, pos := "law.go:112", after := #[{ on := 27, ground := Ground.data }, { on := 36, ground := Ground.data }], guard := none }) (v := ?_) rfl (by kernel_rfl) (by kernel_rfl) (by kernel_rfl) (fun _ _ _ h => h) (Or.inl ⟨by rfl, ?_⟩) (by assumption) ?_
            rotate_left 1
            · (intro w hSw; (try dsimp only at hSw); go_simp; (try with_reducible rfl))
            try simp only [Act.put, List.setIfInBounds_toArray, List.set_cons_zero, List.set_cons_succ]
            refine wpAnyH_done (by kernel_rfl) ?_ _
            go_wp2_with fail
            go_meet
            exact ⟨(by first | rfl | simp), HBL⟩
      case rest =>
        obtain ⟨rfl, HBX⟩ := hcut
        replace HB := Aside0.mk (below_step HB.out HBX.out)
        replace HG := Aside0.mk (Kd.C_below HG.out HBX.out)
        replace HH := Aside0.mk (Kd.C_below HH.out HBX.out)
        replace hx0 := cell_move hx0 (fun hlt => HBX.out.block _ hlt)
        replace hx1 := cell_move hx1 (fun hlt => HBX.out.block _ hlt)
        replace hy0 := cell_move hy0 (fun hlt => HBX.out.block _ hlt)
        replace hy1 := cell_move hy1 (fun hlt => HBX.out.block _ hlt)
        replace HGS := Aside0.mk (Kd.C_below HGS.out HBX.out)
        replace HGT := Aside0.mk (Kd.C_below HGT.out HBX.out)
        replace hs0 := cell_move hs0 (fun hlt => HBX.out.block _ hlt)
        replace hs1 := cell_move hs1 (fun hlt => HBX.out.block _ hlt)
        replace ht0 := cell_move ht0 (fun hlt => HBX.out.block _ hlt)
        replace ht1 := cell_move ht1 (fun hlt => HBX.out.block _ hlt)
        replace HE := Aside0.mk (Kd.C_below HE.out HBX.out)
        replace HF := Aside0.mk (Kd.C_below HF.out HBX.out)
        clear HBX HBL
        obtain ⟨ww, hww⟩ : ∃ ww : World, ww = wc := ⟨_, rfl⟩
        subst hww
        go_wp2_with (first
          | (go_at_call 24; have hq_ : ww = ww := rfl; clear hq_; (refine (PPg.galoislaw23_none.calls j1 As cs J2 true _ (Kd.C_below HGS.out bel0) HGSc.out H14.out).mono ?_); rintro e w20 ⟨rfl, hb20⟩; have hw20 := below_step (w := ww) bel0 hb20; replace HB := Aside0.mk (below_step HB.out hw20); replace HG := Aside0.mk (Kd.C_below HG.out hw20); replace HH := Aside0.mk (Kd.C_below HH.out hw20); replace hx0 := cell_move hx0 (fun hlt => hw20.block _ hlt); replace hx1 := cell_move hx1 (fun hlt => hw20.block _ hlt); replace hy0 := cell_move hy0 (fun hlt => hw20.block _ hlt); replace hy1 := cell_move hy1 (fun hlt => hw20.block _ hlt); replace HGS := Aside0.mk (Kd.C_below HGS.out hw20); replace HGT := Aside0.mk (Kd.C_below HGT.out hw20); replace hs0 := cell_move hs0 (fun hlt => hw20.block _ hlt); replace hs1 := cell_move hs1 (fun hlt => hw20.block _ hlt); replace ht0 := cell_move ht0 (fun hlt => hw20.block _ hlt); replace ht1 := cell_move ht1 (fun hlt => hw20.block _ hlt); replace HE := Aside0.mk (Kd.C_below HE.out hw20); replace HF := Aside0.mk (Kd.C_below HF.out hw20); clear hb20 hw20))
        go_ret
        exact ⟨rfl, below_then (below_alloc (below_alloc (Below.refl _ _) _) _) (by simp; omega) HB.out⟩
end Go.Proofs.YtmbldnoepjmhhaaGreat.Bs
end
section
/- The walk of PermgroupPairs, by values: the way without an error, few generators. -/
namespace Go.Proofs.YtmbldnoepjmhhaaGreat.Bs
open Go.RowKit Go.Proofs.YtmbldnoepjmhhaaGreatW.PrintWords Go.Proofs.YtmbldnoepjmhhaaGreatW.PrintLast Go.Proofs.YtmbldnoepjmhhaaGreatW.PrintMore Go.Proofs.YtmbldnoepjmhhaaGreat.Plain Go.Proofs.YtmbldnoepjmhhaaGreat.PBs Go.Proofs.YtmbldnoepjmhhaaGreat.PAll
theorem cat_perm {w w' : World} {q1 q2 : List Sv} {L M J : List (List Int)} (h1 : ∀ (j : Nat) (v : Sv) (p : List Int), q1[j]? = some v → L[j]? = some p → PermAt w (svE v) p) (h2 : ∀ (j : Nat) (v : Sv) (p : List Int), q2[j]? = some v → M[j]? = some p → PermAt w (svE v) p) (hl : q1.length = L.length) (hJ : L ++ M = J) (hb : Below w.heap.size w w') : ∀ (i : Nat) (sv : Sv) (p : List Int), (q1 ++ q2)[i]? = some sv → J[i]? = some p → PermAt w' (svE sv) p := by
  intro i sv p ha hp
  subst hJ
  by_cases e : i < q1.length
  · rw [List.getElem?_append_left e] at ha
    rw [List.getElem?_append_left (by omega)] at hp
    exact PermAt.below (h1 i sv p ha hp) hb
  · rw [List.getElem?_append_right (by omega)] at ha hp
    rw [hl] at ha
    exact PermAt.below (h2 _ sv p ha hp) hb
set_option maxHeartbeats 16000000 in
set_option maxRecDepth 100000 in
theorem pairs_few (a b : Int) (A0 : Option Addr) (c0 : Nat) (L : List (List Int)) (B0 : Option Addr) (d0 : Nat) (M : List (List Int)) (w : World) (hg : Kd.C (Kd.slice 3 (Kd.int .i64)) w A0 L.length L) (hgc : L.length ≤ c0) (hh : Kd.C (Kd.slice 3 (Kd.int .i64)) w B0 M.length M) (hhc : M.length ≤ d0) (K1 K2 K3 K4 K5 K6 K7 : Nat) (h1 : PPg.galoislaw23_large.f K1 a L = some false) (h2 : PPg.galoislaw23_large.f K2 b M = some false) (vin vsame : Bool) (m1 : Int) (J2 M2 : List (List Int)) (h3 : PPr.permgroup_IsSubgroup.f K3 b M a L = some (vin, 0)) (h4 : PPr.permgroup_Same.f K4 a L b M = some (vsame, 0)) (h5 : permgroup_Join.f K5 a L b M = some (a, J2, 0)) (h6 : permgroup_Meet.f K6 a L b M = some (m1, M2, 0)) (h7 : PRf.galoisref23_Two.f K7 b M a L = some 0) (E F X : List (List Int)) (vsub : Bool) (K8 K9 K10 K11 K12 K13 : Nat) (h8 : PPg.galoisref23_Elements.f K8 a L = some (E, true)) (h9 : PPg.galoisref23_Elements.f K9 b M = some (F, true)) (h10 : PRf.galoisref23_Subset.f K10 F E = some vsub) (h11 : PRf.galoisref23_Common.f K11 E F = some X) (h12 : PGr.galoisref23_Greedy.f K12 a X = some (m1, M2)) (h13 : PRf.galoisref23_Equal.f K13 m1 M2 m1 M2 = some true) (hin : vin = vsub) (hsm : vsame = (vsub && decide ((E.length : Int) = (F.length : Int)))) (hS : (L.length : Int) + (M.length : Int) ≤ 64) (hm : ¬ 32 < (L.length : Int) + (M.length : Int)) (K15 : Nat) (h15 : PRf.galoisref23_Equal.f K15 a J2 a J2 = some true) (hJ : L ++ M = J2) : Calls Tryz.prog 5 #[.agg #[.int .i64 a, .slice A0 L.length c0], .agg #[.int .i64 b, .slice B0 M.length d0]] w fun e w' => e = .returned (.bool true) ∧ Below w.heap.size w w' := by
  have HSUM := Aside0.mk hS
  have ws : wrap64 ((L.length : Int) + (M.length : Int)) = (L.length : Int) + (M.length : Int) := IntWalk.wrap64_in _ ⟨by omega, by omega⟩
  have ws2 : IntKind.i64.wrap ((L.length : Int) + (M.length : Int)) = (L.length : Int) + (M.length : Int) := IntWalk.i64_in _ (by omega)
  have dm : decide (32 < (L.length : Int) + (M.length : Int)) = false := decide_eq_false hm
  have H15 := Aside0.mk h15
  have HJ := Aside0.mk hJ
  clear h15 hm hS hJ
  have H8 := Aside0.mk h8
  have H9 := Aside0.mk h9
  have H10 := Aside0.mk h10
  have H11 := Aside0.mk h11
  have H12 := Aside0.mk h12
  have H13 := Aside0.mk h13
  clear h8 h9 h10 h11 h12 h13
  have H1 := Aside0.mk h1
  have H2 := Aside0.mk h2
  have H3 := Aside0.mk h3
  have H4 := Aside0.mk h4
  have H5 := Aside0.mk h5
  have H6 := Aside0.mk h6
  have H7 := Aside0.mk h7
  clear h1 h2 h3 h4 h5 h6 h7
  have hcs : (vin = false ∧ vsub = false ∧ vsame = false) ∨ (vin = true ∧ vsub = true ∧ vsame = true ∧ ((E.length : Int) == (F.length : Int)) = true) ∨ (vin = true ∧ vsub = true ∧ vsame = false ∧ ((E.length : Int) == (F.length : Int)) = false) := by
    subst hin
    cases vin with
    | false => exact .inl ⟨rfl, rfl, hsm⟩
    | true =>
      by_cases e : (E.length : Int) = (F.length : Int)
      · exact .inr (.inl ⟨rfl, rfl, by rw [hsm, decide_eq_true e]; rfl, beq_iff_eq.2 e⟩)
      · exact .inr (.inr ⟨rfl, rfl, by rw [hsm, decide_eq_false e]; rfl, beq_eq_false_iff_ne.2 e⟩)
  clear hin hsm
  have hu := Tryz.underlying24
  have HB : Aside0 (Below ((w.alloc (.cells #[.int .i64 a, .slice A0 L.length c0] 24)).alloc (.cells #[.int .i64 b, .slice B0 M.length d0] 24)).heap.size ((w.alloc (.cells #[.int .i64 a, .slice A0 L.length c0] 24)).alloc (.cells #[.int .i64 b, .slice B0 M.length d0] 24)) ((w.alloc (.cells #[.int .i64 a, .slice A0 L.length c0] 24)).alloc (.cells #[.int .i64 b, .slice B0 M.length d0] 24))) := ⟨Below.refl _ _⟩
  have HGc := Aside0.mk hgc
  have HHc := Aside0.mk hhc
  have HBW : Aside0 (Below w.heap.size w ((w.alloc (.cells #[.int .i64 a, .slice A0 L.length c0] 24)).alloc (.cells #[.int .i64 b, .slice B0 M.length d0] 24))) := ⟨below_alloc (below_alloc (Below.refl _ _) _) _⟩
  have HG := Aside0.mk (Kd.C_below hg HBW.out)
  have HH := Aside0.mk (Kd.C_below hh HBW.out)
  have hx0 : ((w.alloc (.cells #[.int .i64 a, .slice A0 L.length c0] 24)).alloc (.cells #[.int .i64 b, .slice B0 M.length d0] 24)).cell? ⟨w.heap.size, 0, none⟩ = some (.int .i64 a) := by rw [World.cell?_alloc_past _ _ _ (by simp), World.cell?_alloc_at _ _ _ _ rfl]; rfl
  have hx1 : ((w.alloc (.cells #[.int .i64 a, .slice A0 L.length c0] 24)).alloc (.cells #[.int .i64 b, .slice B0 M.length d0] 24)).cell? ⟨w.heap.size, 1, none⟩ = some (.slice A0 L.length c0) := by rw [World.cell?_alloc_past _ _ _ (by simp), World.cell?_alloc_at _ _ _ _ rfl]; rfl
  have hy0 : ((w.alloc (.cells #[.int .i64 a, .slice A0 L.length c0] 24)).alloc (.cells #[.int .i64 b, .slice B0 M.length d0] 24)).cell? ⟨w.heap.size + 1, 0, none⟩ = some (.int .i64 b) := by rw [World.cell?_alloc_at _ _ _ _ (by simp)]; rfl
  have hy1 : ((w.alloc (.cells #[.int .i64 a, .slice A0 L.length c0] 24)).alloc (.cells #[.int .i64 b, .slice B0 M.length d0] 24)).cell? ⟨w.heap.size + 1, 1, none⟩ = some (.slice B0 M.length d0) := by rw [World.cell?_alloc_at _ _ _ _ (by simp)]; rfl
  clear hg hgc hh hhc
  go_enter Tryz.func5, Tryz.ntmps5
  go_upto_region 5 with (first
    | (go_at_call 29; have hq_ : w4 = w4 := rfl; clear hq_; (refine (PPr.permgroup_Same.calls K4 a A0 c0 L b B0 d0 M vsame 0 _ (Kd.C_below HG.out bel0) HGc.out (Kd.C_below HH.out bel0) HHc.out H4.out).mono ?_); rintro e w5 ⟨rfl, hb5⟩; have hw5 := below_step (w := w4) bel0 hb5; replace HB := Aside0.mk (below_step HB.out hw5); replace HG := Aside0.mk (Kd.C_below HG.out hw5); replace HH := Aside0.mk (Kd.C_below HH.out hw5); replace hx0 := cell_move hx0 (fun hlt => hw5.block _ hlt); replace hx1 := cell_move hx1 (fun hlt => hw5.block _ hlt); replace hy0 := cell_move hy0 (fun hlt => hw5.block _ hlt); replace hy1 := cell_move hy1 (fun hlt => hw5.block _ hlt); clear hb5 hw5)
    | (go_at_call 28; have hq_ : w3 = w3 := rfl; clear hq_; (refine (PPr.permgroup_IsSubgroup.calls K3 b B0 d0 M a A0 c0 L vin 0 _ (Kd.C_below HH.out bel0) HHc.out (Kd.C_below HG.out bel0) HGc.out H3.out).mono ?_); rintro e w4 ⟨rfl, hb4⟩; have hw4 := below_step (w := w3) bel0 hb4; replace HB := Aside0.mk (below_step HB.out hw4); replace HG := Aside0.mk (Kd.C_below HG.out hw4); replace HH := Aside0.mk (Kd.C_below HH.out hw4); replace hx0 := cell_move hx0 (fun hlt => hw4.block _ hlt); replace hx1 := cell_move hx1 (fun hlt => hw4.block _ hlt); replace hy0 := cell_move hy0 (fun hlt => hw4.block _ hlt); replace hy1 := cell_move hy1 (fun hlt => hw4.block _ hlt); clear hb4 hw4)
    | (go_at_call 20; have hq_ : w2 = w2 := rfl; clear hq_; (refine (PPg.galoislaw23_large.calls K2 b B0 d0 M false _ (Kd.C_below HH.out bel0) HHc.out H2.out).mono ?_); rintro e w3 ⟨rfl, hb3⟩; have hw3 := below_step (w := w2) bel0 hb3; replace HB := Aside0.mk (below_step HB.out hw3); replace HG := Aside0.mk (Kd.C_below HG.out hw3); replace HH := Aside0.mk (Kd.C_below HH.out hw3); replace hx0 := cell_move hx0 (fun hlt => hw3.block _ hlt); replace hx1 := cell_move hx1 (fun hlt => hw3.block _ hlt); replace hy0 := cell_move hy0 (fun hlt => hw3.block _ hlt); replace hy1 := cell_move hy1 (fun hlt => hw3.block _ hlt); clear hb3 hw3)
    | (go_at_call 20; have hq_ : w1 = w1 := rfl; clear hq_; (refine (PPg.galoislaw23_large.calls K1 a A0 c0 L false _ (Kd.C_below HG.out bel0) HGc.out H1.out).mono ?_); rintro e w2 ⟨rfl, hb2⟩; have hw2 := below_step (w := w1) bel0 hb2; replace HB := Aside0.mk (below_step HB.out hw2); replace HG := Aside0.mk (Kd.C_below HG.out hw2); replace HH := Aside0.mk (Kd.C_below HH.out hw2); replace hx0 := cell_move hx0 (fun hlt => hw2.block _ hlt); replace hx1 := cell_move hx1 (fun hlt => hw2.block _ hlt); replace hy0 := cell_move hy0 (fun hlt => hw2.block _ hlt); replace hy1 := cell_move hy1 (fun hlt => hw2.block _ hlt); clear hb2 hw2)
    | (go_at_call 19; (refine (galoislaw23_awake.calls true _ rfl).mono ?_); rintro e w1 ⟨rfl, hb1⟩; have hw1 := below_step (w := ((w.alloc (.cells #[.int .i64 a, .slice A0 L.length c0] 24)).alloc (.cells #[.int .i64 b, .slice B0 M.length d0] 24))) bel0 hb1; replace HB := Aside0.mk (below_step HB.out hw1); replace HG := Aside0.mk (Kd.C_below HG.out hw1); replace HH := Aside0.mk (Kd.C_below HH.out hw1); replace hx0 := cell_move hx0 (fun hlt => hw1.block _ hlt); replace hx1 := cell_move hx1 (fun hlt => hw1.block _ hlt); replace hy0 := cell_move hy0 (fun hlt => hw1.block _ hlt); replace hy1 := cell_move hy1 (fun hlt => hw1.block _ hlt); clear hb1 hw1))
  go_cut [9, 10] (fun v5 v6 wx => ∃ (sb : Nat) (A : Option Addr) (c : Nat), v5 = .pointer (some ⟨sb, 0, none⟩) ∧ v6 = .int .i64 0 ∧ Aside0 (wx.heap[sb]? = some (.cells #[.int .i64 a, .slice A J2.length c] 24 (0, 0))) ∧ Aside0 (Kd.C (Kd.slice 3 (Kd.int .i64)) wx A J2.length J2 ∧ J2.length ≤ c) ∧ Aside0 (Below w5.heap.size w5 wx))
  case first =>
    go_wp2_with (go_at_call 30; (refine (permgroup_Join.calls K5 a A0 c0 L b B0 d0 M a J2 0 _ (Kd.C_below HG.out bel0) HGc.out (Kd.C_below HH.out bel0) HHc.out H5.out).mono ?_); rintro e w5_ ⟨v5_, rfl, hs5, hb5⟩; have HS := Aside0.mk hs5; have HBC := Aside0.mk (below_step (w := w5) bel0 hb5); obtain ⟨A5_, c5_, e5_⟩ := Kd.R_slice (Kd.S_R hs5); subst e5_; clear hs5 hb5)
    go_meet
    first
      | exact ⟨_, A5_, c5_, rfl, rfl, ⟨blk_new _ _⟩, ⟨(Kd.S_reads' (Kd.S_alloc HS.out _)).2.2, (Kd.S_reads' HS.out).2.1⟩, ⟨below_then HBC.out HBC.out.size (below_alloc (Below.refl _ _) _)⟩⟩
      | (have hk0 := blk_new w5_ (.cells #[.int .i64 0, .slice none 0 0] 24); have p1 := blk_put hk0 0 (.int .i64 a) rfl; have p2 := blk_put p1 1 (.slice A5_ J2.length c5_) rfl; have hty : ∀ q, q ∈ 39 :: (Kd.slice 3 (Kd.int .i64)).E → q ≠ 24 := by decide; have s2 := Kd.S_set (Kd.S_set (Kd.S_alloc HS.out _) hk0 hty 0 (.int .i64 a)) p1 hty 1 (.slice A5_ J2.length c5_); exact ⟨_, A5_, c5_, rfl, rfl, ⟨p2⟩, ⟨(Kd.S_reads' s2).2.2, (Kd.S_reads' s2).2.1⟩, ⟨((below_then HBC.out HBC.out.size (below_alloc (Below.refl _ _) _)).setCell HBC.out.size _).setCell HBC.out.size _⟩⟩)
  case rest =>
    obtain ⟨sb, As, cs, rfl, rfl, HZS, HCS, HBX⟩ := hcut
    replace HB := Aside0.mk (below_step HB.out HBX.out)
    replace HG := Aside0.mk (Kd.C_below HG.out HBX.out)
    replace HH := Aside0.mk (Kd.C_below HH.out HBX.out)
    replace hx0 := cell_move hx0 (fun hlt => HBX.out.block _ hlt)
    replace hx1 := cell_move hx1 (fun hlt => HBX.out.block _ hlt)
    replace hy0 := cell_move hy0 (fun hlt => HBX.out.block _ hlt)
    replace hy1 := cell_move hy1 (fun hlt => HBX.out.block _ hlt)
    clear HBX
    go_upto_region 6 with fail
    go_cut [11, 12] (fun v5 v6 wx => ∃ (sb : Nat) (A : Option Addr) (c : Nat), v5 = .pointer (some ⟨sb, 0, none⟩) ∧ v6 = .int .i64 0 ∧ Aside0 (wx.heap[sb]? = some (.cells #[.int .i64 m1, .slice A M2.length c] 24 (0, 0))) ∧ Aside0 (Kd.C (Kd.slice 3 (Kd.int .i64)) wx A M2.length M2 ∧ M2.length ≤ c) ∧ Aside0 (Below wc.heap.size wc wx))
    case first =>
      go_wp2_with (go_at_call 31; (refine (permgroup_Meet.calls K6 a A0 c0 L b B0 d0 M m1 M2 0 _ (Kd.C_below HG.out bel0) HGc.out (Kd.C_below HH.out bel0) HHc.out H6.out).mono ?_); rintro e w5_ ⟨v5_, rfl, hs5, hb5⟩; have HS := Aside0.mk hs5; have HBC := Aside0.mk (below_step (w := wc) bel0 hb5); obtain ⟨A5_, c5_, e5_⟩ := Kd.R_slice (Kd.S_R hs5); subst e5_; clear hs5 hb5)
      go_meet
      first
        | exact ⟨_, A5_, c5_, rfl, rfl, ⟨blk_new _ _⟩, ⟨(Kd.S_reads' (Kd.S_alloc HS.out _)).2.2, (Kd.S_reads' HS.out).2.1⟩, ⟨below_then HBC.out HBC.out.size (below_alloc (Below.refl _ _) _)⟩⟩
        | (have hk0 := blk_new w5_ (.cells #[.int .i64 0, .slice none 0 0] 24); have p1 := blk_put hk0 0 (.int .i64 m1) rfl; have p2 := blk_put p1 1 (.slice A5_ M2.length c5_) rfl; have hty : ∀ q, q ∈ 39 :: (Kd.slice 3 (Kd.int .i64)).E → q ≠ 24 := by decide; have s2 := Kd.S_set (Kd.S_set (Kd.S_alloc HS.out _) hk0 hty 0 (.int .i64 m1)) p1 hty 1 (.slice A5_ M2.length c5_); exact ⟨_, A5_, c5_, rfl, rfl, ⟨p2⟩, ⟨(Kd.S_reads' s2).2.2, (Kd.S_reads' s2).2.1⟩, ⟨((below_then HBC.out HBC.out.size (below_alloc (Below.refl _ _) _)).setCell HBC.out.size _).setCell HBC.out.size _⟩⟩)
    case rest =>
      obtain ⟨tb, At, ct, rfl, rfl, HZT, HCT, HBX⟩ := hcut
      replace HB := Aside0.mk (below_step HB.out HBX.out)
      replace HG := Aside0.mk (Kd.C_below HG.out HBX.out)
      replace HH := Aside0.mk (Kd.C_below HH.out HBX.out)
      replace hx0 := cell_move hx0 (fun hlt => HBX.out.block _ hlt)
      replace hx1 := cell_move hx1 (fun hlt => HBX.out.block _ hlt)
      replace hy0 := cell_move hy0 (fun hlt => HBX.out.block _ hlt)
      replace hy1 := cell_move hy1 (fun hlt => HBX.out.block _ hlt)
      replace HZS := Aside0.mk ((HBX.out.block _ (blk_lt HZS.out)).trans HZS.out)
      have HGS := Aside0.mk (Kd.C_below HCS.out.1 HBX.out)
      have HGSc := Aside0.mk HCS.out.2
      have HGT := Aside0.mk HCT.out.1
      have HGTc := Aside0.mk HCT.out.2
      have hs0 := blk_cell HZS.out 0
      have hs1 := blk_cell HZS.out 1
      have ht0 := blk_cell HZT.out 0
      have ht1 := blk_cell HZT.out 1
      simp only [List.getElem?_toArray, List.getElem?_cons_zero, List.getElem?_cons_succ] at hs0 hs1 ht0 ht1
      clear HBX HZS HZT HCS HCT
      go_upto_region 14 with (first
        | (go_at_call 33; have hq_ : w12 = w12 := rfl; clear hq_; (refine (PRf.galoisref23_Subset.calls K10 A12 c12 F A11 c11 E vsub _ (Kd.C_below HF.out bel0) HFc.out (Kd.C_below HE.out bel0) HEc.out H10.out).mono ?_); rintro e w13 ⟨rfl, hb13⟩; have hw13 := below_step (w := w12) bel0 hb13; replace HB := Aside0.mk (below_step HB.out hw13); replace HG := Aside0.mk (Kd.C_below HG.out hw13); replace HH := Aside0.mk (Kd.C_below HH.out hw13); replace hx0 := cell_move hx0 (fun hlt => hw13.block _ hlt); replace hx1 := cell_move hx1 (fun hlt => hw13.block _ hlt); replace hy0 := cell_move hy0 (fun hlt => hw13.block _ hlt); replace hy1 := cell_move hy1 (fun hlt => hw13.block _ hlt); replace HGS := Aside0.mk (Kd.C_below HGS.out hw13); replace HGT := Aside0.mk (Kd.C_below HGT.out hw13); replace hs0 := cell_move hs0 (fun hlt => hw13.block _ hlt); replace hs1 := cell_move hs1 (fun hlt => hw13.block _ hlt); replace ht0 := cell_move ht0 (fun hlt => hw13.block _ hlt); replace ht1 := cell_move ht1 (fun hlt => hw13.block _ hlt); replace HE := Aside0.mk (Kd.C_below HE.out hw13); replace HF := Aside0.mk (Kd.C_below HF.out hw13); clear hb13 hw13)
        | (go_at_call 25; have hq_ : w11 = w11 := rfl; clear hq_; (refine (PPg.galoisref23_Elements.calls K9 b B0 d0 M F true _ (Kd.C_below HH.out bel0) HHc.out H9.out).mono ?_); rintro e w12 ⟨v12, rfl, hs12, hb12⟩; have hw12 := below_step (w := w11) bel0 hb12; replace HB := Aside0.mk (below_step HB.out hw12); replace HG := Aside0.mk (Kd.C_below HG.out hw12); replace HH := Aside0.mk (Kd.C_below HH.out hw12); replace hx0 := cell_move hx0 (fun hlt => hw12.block _ hlt); replace hx1 := cell_move hx1 (fun hlt => hw12.block _ hlt); replace hy0 := cell_move hy0 (fun hlt => hw12.block _ hlt); replace hy1 := cell_move hy1 (fun hlt => hw12.block _ hlt); replace HGS := Aside0.mk (Kd.C_below HGS.out hw12); replace HGT := Aside0.mk (Kd.C_below HGT.out hw12); replace hs0 := cell_move hs0 (fun hlt => hw12.block _ hlt); replace hs1 := cell_move hs1 (fun hlt => hw12.block _ hlt); replace ht0 := cell_move ht0 (fun hlt => hw12.block _ hlt); replace ht1 := cell_move ht1 (fun hlt => hw12.block _ hlt); replace HE := Aside0.mk (Kd.C_below HE.out hw12); obtain ⟨A12, c12, e12⟩ := Kd.R_slice (Kd.S_R hs12); subst e12; have HF := Aside0.mk (Kd.S_reads' hs12).2.2; have HFc := Aside0.mk (Kd.S_reads' hs12).2.1; clear hs12; clear hb12 hw12)
        | (go_at_call 25; have hq_ : w10 = w10 := rfl; clear hq_; (refine (PPg.galoisref23_Elements.calls K8 a A0 c0 L E true _ (Kd.C_below HG.out bel0) HGc.out H8.out).mono ?_); rintro e w11 ⟨v11, rfl, hs11, hb11⟩; have hw11 := below_step (w := w10) bel0 hb11; replace HB := Aside0.mk (below_step HB.out hw11); replace HG := Aside0.mk (Kd.C_below HG.out hw11); replace HH := Aside0.mk (Kd.C_below HH.out hw11); replace hx0 := cell_move hx0 (fun hlt => hw11.block _ hlt); replace hx1 := cell_move hx1 (fun hlt => hw11.block _ hlt); replace hy0 := cell_move hy0 (fun hlt => hw11.block _ hlt); replace hy1 := cell_move hy1 (fun hlt => hw11.block _ hlt); replace HGS := Aside0.mk (Kd.C_below HGS.out hw11); replace HGT := Aside0.mk (Kd.C_below HGT.out hw11); replace hs0 := cell_move hs0 (fun hlt => hw11.block _ hlt); replace hs1 := cell_move hs1 (fun hlt => hw11.block _ hlt); replace ht0 := cell_move ht0 (fun hlt => hw11.block _ hlt); replace ht1 := cell_move ht1 (fun hlt => hw11.block _ hlt); obtain ⟨A11, c11, e11⟩ := Kd.R_slice (Kd.S_R hs11); subst e11; have HE := Aside0.mk (Kd.S_reads' hs11).2.2; have HEc := Aside0.mk (Kd.S_reads' hs11).2.1; clear hs11; clear hb11 hw11)
        | (go_at_call 32; have hq_ : wc = wc := rfl; clear hq_; (refine (PRf.galoisref23_Two.calls K7 b B0 d0 M a A0 c0 L 0 _ (Kd.C_below HH.out bel0) HHc.out (Kd.C_below HG.out bel0) HGc.out H7.out).mono ?_); rintro e w10 ⟨rfl, hb10⟩; have hw10 := below_step (w := wc) bel0 hb10; replace HB := Aside0.mk (below_step HB.out hw10); replace HG := Aside0.mk (Kd.C_below HG.out hw10); replace HH := Aside0.mk (Kd.C_below HH.out hw10); replace hx0 := cell_move hx0 (fun hlt => hw10.block _ hlt); replace hx1 := cell_move hx1 (fun hlt => hw10.block _ hlt); replace hy0 := cell_move hy0 (fun hlt => hw10.block _ hlt); replace hy1 := cell_move hy1 (fun hlt => hw10.block _ hlt); replace HGS := Aside0.mk (Kd.C_below HGS.out hw10); replace HGT := Aside0.mk (Kd.C_below HGT.out hw10); replace hs0 := cell_move hs0 (fun hlt => hw10.block _ hlt); replace hs1 := cell_move hs1 (fun hlt => hw10.block _ hlt); replace ht0 := cell_move ht0 (fun hlt => hw10.block _ hlt); replace ht1 := cell_move ht1 (fun hlt => hw10.block _ hlt); clear hb10 hw10))
      have HBL : Aside0 (Below w13.heap.size w13 w13) := ⟨Below.refl _ _⟩
      go_cut [147] (fun v147 wx => v147 = .bool false ∧ Aside0 (Below w13.heap.size w13 wx))
      case first =>
        rcases hcs with ⟨rfl, rfl, rfl⟩ | hcs
        · refine wp_region_held_drew (S := (fun w' => w'.cell? ⟨w.heap.size, 0, none⟩ = some (.int .i64 a) ∧ w'.cell? ⟨tb, 0, none⟩ = some (.int .i64 m1) ∧ w'.cell? ⟨tb, 1, none⟩ = some (.slice At M2.length ct))) (by kernel_rfl) ?_ (fun hHeld => ?_)
          · exact ⟨hx0, ht0, ht1⟩
          refine wpAnyH_take (i := 0) (oi := { dst := some 110, op := Op.move (Operand.tmp 6), type := 27, pos := "law.go:112", after := #[], guard := none }) (v := ?_) rfl (by kernel_rfl) (by kernel_rfl) (by kernel_rfl) (fun _ _ _ h => h) (Or.inl ⟨by rfl, ?_⟩) (by assumption) ?_
          rotate_left 1
          · (intro w hSw; (try dsimp only at hSw); go_simp; (try with_reducible rfl))
          try simp only [Act.put, List.setIfInBounds_toArray, List.set_cons_zero, List.set_cons_succ]
          refine wpAnyH_take (i := 1) (oi := { dst := some 111, op := Op.binOp BinOp.neq 27 (Operand.tmp 110) (Operand.const (Value.int IntKind.i64 0)) 27, type := 4, pos := "law.go:112", after := #[{ on := 0, ground := Ground.data }], guard := none }) (v := ?_) rfl (by kernel_rfl) (by kernel_rfl) (by kernel_rfl) (fun _ _ _ h => h) (Or.inl ⟨by rfl, ?_⟩) (by assumption) ?_
          rotate_left 1
          · (intro w hSw; (try dsimp only at hSw); go_simp; (try with_reducible rfl))
          try simp only [Act.put, List.setIfInBounds_toArray, List.set_cons_zero, List.set_cons_succ]
          refine wpAnyH_take (i := 2) (oi := { dst := some 112, op := Op.move (Operand.tmp 111), type := 4, pos := "law.go:112", after := #[{ on := 1, ground := Ground.data }], guard := none }) (v := ?_) rfl (by kernel_rfl) (by kernel_rfl) (by kernel_rfl) (fun _ _ _ h => h) (Or.inl ⟨by rfl, ?_⟩) (by assumption) ?_
          rotate_left 1
          · (intro w hSw; (try dsimp only at hSw); go_simp; (try with_reducible rfl))
          try simp only [Act.put, List.setIfInBounds_toArray, List.set_cons_zero, List.set_cons_succ]
          refine wpAnyH_take (i := 3) (oi := { dst := some 113, op := Op.move (Operand.tmp 5), type := 4, pos := "law.go:112", after := #[{ on := 2, ground := Ground.guard }], guard := some (2, false) }) (v := ?_) rfl (by kernel_rfl) (by kernel_rfl) (by kernel_rfl) (fun _ _ _ h => h) (Or.inl ⟨by rfl, ?_⟩) (by assumption) ?_
          rotate_left 1
          · (intro w hSw; (try dsimp only at hSw); go_simp; (try with_reducible rfl))
          try simp only [Act.put, List.setIfInBounds_toArray, List.set_cons_zero, List.set_cons_succ]
          refine wpAnyH_take (i := 4) (oi := { dst := some 114, op := Op.move (Operand.tmp 19), type := 4, pos := "law.go:112", after := #[{ on := 2, ground := Ground.guard }], guard := some (2, false) }) (v := ?_) rfl (by kernel_rfl) (by kernel_rfl) (by kernel_rfl) (fun _ _ _ h => h) (Or.inl ⟨by rfl, ?_⟩) (by assumption) ?_
          rotate_left 1
          · (intro w hSw; (try dsimp only at hSw); go_simp; (try with_reducible rfl))
          try simp only [Act.put, List.setIfInBounds_toArray, List.set_cons_zero, List.set_cons_succ]
          refine wpAnyH_take (i := 5) (oi := { dst := some 115, op := Op.binOp BinOp.neq 4 (Operand.tmp 113) (Operand.tmp 114) 4, type := 4, pos := "law.go:112", after := #[{ on := 3, ground := Ground.data }, { on := 4, ground := Ground.data }, { on := 2, ground := Ground.guard }], guard := some (2, false) }) (v := ?_) rfl (by kernel_rfl) (by kernel_rfl) (by kernel_rfl) (fun _ _ _ h => h) (Or.inl ⟨by rfl, ?_⟩) (by assumption) ?_
          rotate_left 1
          · (intro w hSw; (try dsimp only at hSw); go_simp; (try with_reducible rfl))
          try simp only [Act.put, List.setIfInBounds_toArray, List.set_cons_zero, List.set_cons_succ]
          refine wpAnyH_take (i := 6) (oi := { dst := some 116, op := Op.pick (Operand.tmp 112) (Operand.const (Value.bool true)) (Operand.tmp 115), type := 4, pos := "law.go:112", after := #[{ on := 2, ground := Ground.data }, { on := 5, ground := Ground.data }], guard := none }) (v := ?_) rfl (by kernel_rfl) (by kernel_rfl) (by kernel_rfl) (fun _ _ _ h => h) (Or.inl ⟨by rfl, ?_⟩) (by assumption) ?_
          rotate_left 1
          · (intro w hSw; (try dsimp only at hSw); go_simp; (try with_reducible rfl))
          try simp only [Act.put, List.setIfInBounds_toArray, List.set_cons_zero, List.set_cons_succ]
          refine wpAnyH_take (i := 7) (oi := { dst := some 117, op := Op.move (Operand.tmp 116), type := 4, pos := "law.go:112", after := #[{ on := 6, ground := Ground.data }, { on := 2, ground := Ground.chain }], guard := none }) (v := ?_) rfl (by kernel_rfl) (by kernel_rfl) (by kernel_rfl) (fun _ _ _ h => h) (Or.inl ⟨by rfl, ?_⟩) (by assumption) ?_
          rotate_left 1
          · (intro w hSw; (try dsimp only at hSw); go_simp; (try with_reducible rfl))
          try simp only [Act.put, List.setIfInBounds_toArray, List.set_cons_zero, List.set_cons_succ]
          refine wpAnyH_take (i := 8) (oi := { dst := some 118, op := Op.move (Operand.tmp 8), type := 27, pos := "law.go:112", after := #[{ on := 7, ground := Ground.guard }], guard := some (7, false) }) (v := ?_) rfl (by kernel_rfl) (by kernel_rfl) (by kernel_rfl) (fun _ _ _ h => h) (Or.inl ⟨by rfl, ?_⟩) (by assumption) ?_
          rotate_left 1
          · (intro w hSw; (try dsimp only at hSw); go_simp; (try with_reducible rfl))
          try simp only [Act.put, List.setIfInBounds_toArray, List.set_cons_zero, List.set_cons_succ]
          refine wpAnyH_take (i := 9) (oi := { dst := some 119, op := Op.binOp BinOp.neq 27 (Operand.tmp 118) (Operand.const (Value.int IntKind.i64 0)) 27, type := 4, pos := "law.go:112", after := #[{ on := 8, ground := Ground.data }, { on := 7, ground := Ground.guard }], guard := some (7, false) }) (v := ?_) rfl (by kernel_rfl) (by kernel_rfl) (by kernel_rfl) (fun _ _ _ h => h) (Or.inl ⟨by rfl, ?_⟩) (by assumption) ?_
          rotate_left 1
          · (intro w hSw; (try dsimp only at hSw); go_simp; (try with_reducible rfl))
          try simp only [Act.put, List.setIfInBounds_toArray, List.set_cons_zero, List.set_cons_succ]
          refine wpAnyH_take (i := 10) (oi := { dst := some 120, op := Op.pick (Operand.tmp 117) (Operand.const (Value.bool true)) (Operand.tmp 119), type := 4, pos := "law.go:112", after := #[{ on := 7, ground := Ground.data }, { on := 9, ground := Ground.data }], guard := none }) (v := ?_) rfl (by kernel_rfl) (by kernel_rfl) (by kernel_rfl) (fun _ _ _ h => h) (Or.inl ⟨by rfl, ?_⟩) (by assumption) ?_
          rotate_left 1
          · (intro w hSw; (try dsimp only at hSw); go_simp; (try with_reducible rfl))
          try simp only [Act.put, List.setIfInBounds_toArray, List.set_cons_zero, List.set_cons_succ]
          refine wpAnyH_take (i := 11) (oi := { dst := some 121, op := Op.move (Operand.tmp 120), type := 4, pos := "law.go:112", after := #[{ on := 10, ground := Ground.data }, { on := 7, ground := Ground.chain }], guard := none }) (v := ?_) rfl (by kernel_rfl) (by kernel_rfl) (by kernel_rfl) (fun _ _ _ h => h) (Or.inl ⟨by rfl, ?_⟩) (by assumption) ?_
          rotate_left 1
          · (intro w hSw; (try dsimp only at hSw); go_simp; (try with_reducible rfl))
          try simp only [Act.put, List.setIfInBounds_toArray, List.set_cons_zero, List.set_cons_succ]
          refine wpAnyH_take (i := 12) (oi := { dst := some 122, op := Op.move (Operand.tmp 7), type := 4, pos := "law.go:112", after := #[{ on := 11, ground := Ground.guard }], guard := some (11, false) }) (v := ?_) rfl (by kernel_rfl) (by kernel_rfl) (by kernel_rfl) (fun _ _ _ h => h) (Or.inl ⟨by rfl, ?_⟩) (by assumption) ?_
          rotate_left 1
          · (intro w hSw; (try dsimp only at hSw); go_simp; (try with_reducible rfl))
          try simp only [Act.put, List.setIfInBounds_toArray, List.set_cons_zero, List.set_cons_succ]
          refine wpAnyH_take (i := 13) (oi := { dst := some 123, op := Op.move (Operand.tmp 19), type := 4, pos := "law.go:112", after := #[{ on := 11, ground := Ground.guard }], guard := some (11, false) }) (v := ?_) rfl (by kernel_rfl) (by kernel_rfl) (by kernel_rfl) (fun _ _ _ h => h) (Or.inl ⟨by rfl, ?_⟩) (by assumption) ?_
          rotate_left 1
          · (intro w hSw; (try dsimp only at hSw); go_simp; (try with_reducible rfl))
          try simp only [Act.put, List.setIfInBounds_toArray, List.set_cons_zero, List.set_cons_succ]
          refine wpAnyH_take (i := 14) (oi := { dst := some 124, op := Op.move (Operand.tmp 123), type := 4, pos := "law.go:112", after := #[{ on := 13, ground := Ground.data }, { on := 11, ground := Ground.chain }, { on := 11, ground := Ground.guard }], guard := some (11, false) }) (v := ?_) rfl (by kernel_rfl) (by kernel_rfl) (by kernel_rfl) (fun _ _ _ h => h) (Or.inl ⟨by rfl, ?_⟩) (by assumption) ?_
          rotate_left 1
          · (intro w hSw; (try dsimp only at hSw); go_simp; (try with_reducible rfl))
          try simp only [Act.put, List.setIfInBounds_toArray, List.set_cons_zero, List.set_cons_succ]
          refine wpAnyH_take (i := 15) (oi := { dst := some 125, op := Op.move (Operand.tmp 15), type := 22, pos := "law.go:112", after := #[{ on := 14, ground := Ground.guard }], guard := some (14, true) }) (v := undef) rfl (by kernel_rfl) (by kernel_rfl) (by kernel_rfl) (fun _ _ _ h => h) (Or.inr ⟨by rfl, rfl⟩) (by assumption) ?_
          try simp only [Act.put, List.setIfInBounds_toArray, List.set_cons_zero, List.set_cons_succ]
          refine wpAnyH_take (i := 16) (oi := { dst := some 126, op := Op.call { callee := Callee.builtin Builtin.len, args := #[Operand.tmp 125], argTypes := #[22] }, type := 3, pos := "law.go:112", after := #[{ on := 15, ground := Ground.data }, { on := 14, ground := Ground.guard }], guard := some (14, true) }) (v := undef) rfl (by kernel_rfl) (by kernel_rfl) (by kernel_rfl) (fun _ _ _ h => h) (Or.inr ⟨by rfl, rfl⟩) (by assumption) ?_
          try simp only [Act.put, List.setIfInBounds_toArray, List.set_cons_zero, List.set_cons_succ]
          refine wpAnyH_take (i := 17) (oi := { dst := some 127, op := Op.move (Operand.tmp 17), type := 22, pos := "law.go:112", after := #[{ on := 14, ground := Ground.guard }], guard := some (14, true) }) (v := undef) rfl (by kernel_rfl) (by kernel_rfl) (by kernel_rfl) (fun _ _ _ h => h) (Or.inr ⟨by rfl, rfl⟩) (by assumption) ?_
          try simp only [Act.put, List.setIfInBounds_toArray, List.set_cons_zero, List.set_cons_succ]
          refine wpAnyH_take (i := 18) (oi := { dst := some 128, op := Op.call { callee := Callee.builtin Builtin.len, args := #[Operand.tmp 127], argTypes := #[22] }, type := 3, pos := "law.go:112", after := #[{ on := 17, ground := Ground.data }, { on := 14, ground := Ground.guard }], guard := some (14, true) }) (v := undef) rfl (by kernel_rfl) (by kernel_rfl) (by kernel_rfl) (fun _ _ _ h => h) (Or.inr ⟨by rfl, rfl⟩) (by assumption) ?_
          try simp only [Act.put, List.setIfInBounds_toArray, List.set_cons_zero, List.set_cons_succ]
          refine wpAnyH_take (i := 19) (oi := { dst := some 129, op := Op.binOp BinOp.eql 3 (Operand.tmp 126) (Operand.tmp 128) 3, type := 4, pos := "law.go:112", after := #[{ on := 16, ground := Ground.data }, { on := 18, ground := Ground.data }, { on := 14, ground := Ground.guard }], guard := some (14, true) }) (v := undef) rfl (by kernel_rfl) (by kernel_rfl) (by kernel_rfl) (fun _ _ _ h => h) (Or.inr ⟨by rfl, rfl⟩) (by assumption) ?_
          try simp only [Act.put, List.setIfInBounds_toArray, List.set_cons_zero, List.set_cons_succ]
          refine wpAnyH_take (i := 20) (oi := { dst := some 130, op := Op.pick (Operand.tmp 124) (Operand.tmp 129) (Operand.const (Value.bool false)), type := 4, pos := "law.go:112", after := #[{ on := 14, ground := Ground.data }, { on := 19, ground := Ground.data }, { on := 11, ground := Ground.guard }], guard := some (11, false) }) (v := ?_) rfl (by kernel_rfl) (by kernel_rfl) (by kernel_rfl) (fun _ _ _ h => h) (Or.inl ⟨by rfl, ?_⟩) (by assumption) ?_
          rotate_left 1
          · (intro w hSw; (try dsimp only at hSw); go_simp; (try with_reducible rfl))
          try simp only [Act.put, List.setIfInBounds_toArray, List.set_cons_zero, List.set_cons_succ]
          refine wpAnyH_take (i := 21) (oi := { dst := some 131, op := Op.binOp BinOp.neq 4 (Operand.tmp 122) (Operand.tmp 130) 4, type := 4, pos := "law.go:112", after := #[{ on := 12, ground := Ground.data }, { on := 20, ground := Ground.data }, { on := 11, ground := Ground.guard }], guard := some (11, false) }) (v := ?_) rfl (by kernel_rfl) (by kernel_rfl) (by kernel_rfl) (fun _ _ _ h => h) (Or.inl ⟨by rfl, ?_⟩) (by assumption) ?_
          rotate_left 1
          · (intro w hSw; (try dsimp only at hSw); go_simp; (try with_reducible rfl))
          try simp only [Act.put, List.setIfInBounds_toArray, List.set_cons_zero, List.set_cons_succ]
          refine wpAnyH_take (i := 22) (oi := { dst := some 132, op := Op.pick (Operand.tmp 121) (Operand.const (Value.bool true)) (Operand.tmp 131), type := 4, pos := "law.go:112", after := #[{ on := 11, ground := Ground.data }, { on := 21, ground := Ground.data }], guard := none }) (v := ?_) rfl (by kernel_rfl) (by kernel_rfl) (by kernel_rfl) (fun _ _ _ h => h) (Or.inl ⟨by rfl, ?_⟩) (by assumption) ?_
          rotate_left 1
          · (intro w hSw; (try dsimp only at hSw); go_simp; (try with_reducible rfl))
          try simp only [Act.put, List.setIfInBounds_toArray, List.set_cons_zero, List.set_cons_succ]
          refine wpAnyH_take (i := 23) (oi := { dst := some 133, op := Op.move (Operand.tmp 132), type := 4, pos := "law.go:112", after := #[{ on := 22, ground := Ground.data }, { on := 14, ground := Ground.chain }], guard := none }) (v := ?_) rfl (by kernel_rfl) (by kernel_rfl) (by kernel_rfl) (fun _ _ _ h => h) (Or.inl ⟨by rfl, ?_⟩) (by assumption) ?_
          rotate_left 1
          · (intro w hSw; (try dsimp only at hSw); go_simp; (try with_reducible rfl))
          try simp only [Act.put, List.setIfInBounds_toArray, List.set_cons_zero, List.set_cons_succ]
          refine wpAnyH_take (i := 24) (oi := { dst := some 134, op := Op.move (Operand.tmp 12), type := 27, pos := "law.go:112", after := #[{ on := 23, ground := Ground.guard }], guard := some (23, false) }) (v := ?_) rfl (by kernel_rfl) (by kernel_rfl) (by kernel_rfl) (fun _ _ _ h => h) (Or.inl ⟨by rfl, ?_⟩) (by assumption) ?_
          rotate_left 1
          · (intro w hSw; (try dsimp only at hSw); go_simp; (try with_reducible rfl))
          try simp only [Act.put, List.setIfInBounds_toArray, List.set_cons_zero, List.set_cons_succ]
          refine wpAnyH_take (i := 25) (oi := { dst := some 135, op := Op.binOp BinOp.neq 27 (Operand.tmp 134) (Operand.const (Value.int IntKind.i64 0)) 27, type := 4, pos := "law.go:112", after := #[{ on := 24, ground := Ground.data }, { on := 23, ground := Ground.guard }], guard := some (23, false) }) (v := ?_) rfl (by kernel_rfl) (by kernel_rfl) (by kernel_rfl) (fun _ _ _ h => h) (Or.inl ⟨by rfl, ?_⟩) (by assumption) ?_
          rotate_left 1
          · (intro w hSw; (try dsimp only at hSw); go_simp; (try with_reducible rfl))
          try simp only [Act.put, List.setIfInBounds_toArray, List.set_cons_zero, List.set_cons_succ]
          refine wpAnyH_take (i := 26) (oi := { dst := some 136, op := Op.pick (Operand.tmp 133) (Operand.const (Value.bool true)) (Operand.tmp 135), type := 4, pos := "law.go:112", after := #[{ on := 23, ground := Ground.data }, { on := 25, ground := Ground.data }], guard := none }) (v := ?_) rfl (by kernel_rfl) (by kernel_rfl) (by kernel_rfl) (fun _ _ _ h => h) (Or.inl ⟨by rfl, ?_⟩) (by assumption) ?_
          rotate_left 1
          · (intro w hSw; (try dsimp only at hSw); go_simp; (try with_reducible rfl))
          try simp only [Act.put, List.setIfInBounds_toArray, List.set_cons_zero, List.set_cons_succ]
          refine wpAnyH_take (i := 27) (oi := { dst := some 137, op := Op.move (Operand.tmp 136), type := 4, pos := "law.go:112", after := #[{ on := 26, ground := Ground.data }, { on := 23, ground := Ground.chain }], guard := none }) (v := ?_) rfl (by kernel_rfl) (by kernel_rfl) (by kernel_rfl) (fun _ _ _ h => h) (Or.inl ⟨by rfl, ?_⟩) (by assumption) ?_
          rotate_left 1
          · (intro w hSw; (try dsimp only at hSw); go_simp; (try with_reducible rfl))
          try simp only [Act.put, List.setIfInBounds_toArray, List.set_cons_zero, List.set_cons_succ]
          refine wpAnyH_take (i := 28) (oi := { dst := some 138, op := Op.load 24 (Operand.tmp 11), type := 24, pos := "law.go:112", after := #[{ on := 27, ground := Ground.guard }], guard := some (27, false) }) (v := ?_) rfl (by kernel_rfl) (by kernel_rfl) (by kernel_rfl) (fun _ _ _ h => h) (Or.inl ⟨by rfl, ?_⟩) (by assumption) ?_
          rotate_left 1
          · (intro w hSw; (try dsimp only at hSw); go_simp; (try with_reducible rfl))
          try simp only [Act.put, List.setIfInBounds_toArray, List.set_cons_zero, List.set_cons_succ]
          refine wpAnyH_take (i := 29) (oi := { dst := some 139, op := Op.fieldAddr 24 (Operand.tmp 2) 0, type := 0, pos := "law.go:112", after := #[{ on := 27, ground := Ground.guard }], guard := some (27, false) }) (v := ?_) rfl (by kernel_rfl) (by kernel_rfl) (by kernel_rfl) (fun _ _ _ h => h) (Or.inl ⟨by rfl, ?_⟩) (by assumption) ?_
          rotate_left 1
          · (intro w hSw; (try dsimp only at hSw); go_simp; (try with_reducible rfl))
          try simp only [Act.put, List.setIfInBounds_toArray, List.set_cons_zero, List.set_cons_succ]
          refine wpAnyH_take (i := 30) (oi := { dst := some 140, op := Op.load 3 (Operand.tmp 139), type := 3, pos := "law.go:112", after := #[{ on := 29, ground := Ground.data }, { on := 27, ground := Ground.guard }], guard := some (27, false) }) (v := ?_) rfl (by kernel_rfl) (by kernel_rfl) (by kernel_rfl) (fun _ _ _ h => h) (Or.inl ⟨by rfl, ?_⟩) (by assumption) ?_
          rotate_left 1
          · (intro w hSw; (try dsimp only at hSw); go_simp; (try with_reducible rfl))
          try simp only [Act.put, List.setIfInBounds_toArray, List.set_cons_zero, List.set_cons_succ]
          refine wpAnyH_take (i := 31) (oi := { dst := some 141, op := Op.move (Operand.tmp 15), type := 22, pos := "law.go:112", after := #[{ on := 27, ground := Ground.guard }], guard := some (27, false) }) (v := ?_) rfl (by kernel_rfl) (by kernel_rfl) (by kernel_rfl) (fun _ _ _ h => h) (Or.inl ⟨by rfl, ?_⟩) (by assumption) ?_
          rotate_left 1
          · (intro w hSw; (try dsimp only at hSw); go_simp; (try with_reducible rfl))
          try simp only [Act.put, List.setIfInBounds_toArray, List.set_cons_zero, List.set_cons_succ]
          refine wpAnyH_take (i := 32) (oi := { dst := some 142, op := Op.move (Operand.tmp 17), type := 22, pos := "law.go:112", after := #[{ on := 27, ground := Ground.guard }], guard := some (27, false) }) (v := ?_) rfl (by kernel_rfl) (by kernel_rfl) (by kernel_rfl) (fun _ _ _ h => h) (Or.inl ⟨by rfl, ?_⟩) (by assumption) ?_
          rotate_left 1
          · (intro w hSw; (try dsimp only at hSw); go_simp; (try with_reducible rfl))
          try simp only [Act.put, List.setIfInBounds_toArray, List.set_cons_zero, List.set_cons_succ]
          refine wpAnyH_ready (rs := [33]) (by kernel_rfl) (by simp) ?_
          refine AllReadyH.cons (o := { dst := some 143, op := Op.call { callee := Callee.value (Operand.func 34), args := #[Operand.tmp 141, Operand.tmp 142], argTypes := #[22, 22] }, type := 22, pos := "law.go:112", after := #[{ on := 31, ground := Ground.data }, { on := 32, ground := Ground.data }, { on := 27, ground := Ground.chain }, { on := 27, ground := Ground.guard }], guard := some (27, false) }) rfl (fun K hK => ?_) AllReadyH.nil
          go_simp
          (go_at_call 34; have hq_ : w13 = w13 := rfl; clear hq_; (refine (common_C K11 A11 c11 E A12 c12 F X _ (Kd.C_below HE.out bel0) HEc.out (Kd.C_below HF.out bel0) HFc.out H11.out).mono ?_); rintro e w14 ⟨A14, c14, rfl, hc14, hC14, hb14⟩; have hw14 := below_step (w := w13) bel0 hb14; replace HB := Aside0.mk (below_step HB.out hw14); replace HG := Aside0.mk (Kd.C_below HG.out hw14); replace HH := Aside0.mk (Kd.C_below HH.out hw14); replace hx0 := cell_move hx0 (fun hlt => hw14.block _ hlt); replace hx1 := cell_move hx1 (fun hlt => hw14.block _ hlt); replace hy0 := cell_move hy0 (fun hlt => hw14.block _ hlt); replace hy1 := cell_move hy1 (fun hlt => hw14.block _ hlt); replace HGS := Aside0.mk (Kd.C_below HGS.out hw14); replace HGT := Aside0.mk (Kd.C_below HGT.out hw14); replace hs0 := cell_move hs0 (fun hlt => hw14.block _ hlt); replace hs1 := cell_move hs1 (fun hlt => hw14.block _ hlt); replace ht0 := cell_move ht0 (fun hlt => hw14.block _ hlt); replace ht1 := cell_move ht1 (fun hlt => hw14.block _ hlt); replace HE := Aside0.mk (Kd.C_below HE.out hw14); replace HF := Aside0.mk (Kd.C_below HF.out hw14); replace HBL := Aside0.mk (below_step HBL.out hw14); have HX := Aside0.mk hC14; have HXc := Aside0.mk hc14; clear hC14 hc14; clear hb14 hw14)
          refine hK.out _ _ ?_ (fun hHeld => ?_)
          · exact ⟨hx0, ht0, ht1⟩
          clear hK K
          try simp only [Act.put, List.setIfInBounds_toArray, List.set_cons_zero, List.set_cons_succ]
          refine wpAnyH_ready (rs := [34]) (by kernel_rfl) (by simp) ?_
          refine AllReadyH.cons (o := { dst := some 144, op := Op.call { callee := Callee.value (Operand.func 14), args := #[Operand.tmp 140, Operand.tmp 143], argTypes := #[3, 22] }, type := 24, pos := "law.go:112", after := #[{ on := 30, ground := Ground.data }, { on := 33, ground := Ground.data }, { on := 33, ground := Ground.chain }, { on := 27, ground := Ground.guard }], guard := some (27, false) }) rfl (fun K hK => ?_) AllReadyH.nil
          go_simp
          (go_at_call 14; have hq_ : w14 = w14 := rfl; clear hq_; (refine (greedy_C K12 a A14 c14 X m1 M2 _ (Kd.C_below HX.out bel0) HXc.out H12.out).mono ?_); rintro e w15 ⟨A15, c15, rfl, hc15, hC15, hb15⟩; have hw15 := below_step (w := w14) bel0 hb15; replace HB := Aside0.mk (below_step HB.out hw15); replace HG := Aside0.mk (Kd.C_below HG.out hw15); replace HH := Aside0.mk (Kd.C_below HH.out hw15); replace hx0 := cell_move hx0 (fun hlt => hw15.block _ hlt); replace hx1 := cell_move hx1 (fun hlt => hw15.block _ hlt); replace hy0 := cell_move hy0 (fun hlt => hw15.block _ hlt); replace hy1 := cell_move hy1 (fun hlt => hw15.block _ hlt); replace HGS := Aside0.mk (Kd.C_below HGS.out hw15); replace HGT := Aside0.mk (Kd.C_below HGT.out hw15); replace hs0 := cell_move hs0 (fun hlt => hw15.block _ hlt); replace hs1 := cell_move hs1 (fun hlt => hw15.block _ hlt); replace ht0 := cell_move ht0 (fun hlt => hw15.block _ hlt); replace ht1 := cell_move ht1 (fun hlt => hw15.block _ hlt); replace HE := Aside0.mk (Kd.C_below HE.out hw15); replace HF := Aside0.mk (Kd.C_below HF.out hw15); replace HBL := Aside0.mk (below_step HBL.out hw15); replace HX := Aside0.mk (Kd.C_below HX.out hw15); have HY := Aside0.mk hC15; have HYc := Aside0.mk hc15; clear hC15 hc15; clear hb15 hw15)
          refine hK.out _ _ ?_ (fun hHeld => ?_)
          · exact ⟨hx0, ht0, ht1⟩
          clear hK K
          try simp only [Act.put, List.setIfInBounds_toArray, List.set_cons_zero, List.set_cons_succ]
          refine wpAnyH_ready (rs := [35]) (by kernel_rfl) (by simp) ?_
          refine AllReadyH.cons (o := { dst := some 145, op := Op.call { callee := Callee.value (Operand.func 13), args := #[Operand.tmp 138, Operand.tmp 144], argTypes := #[24, 24] }, type := 4, pos := "law.go:112", after := #[{ on := 28, ground := Ground.data }, { on := 34, ground := Ground.data }, { on := 34, ground := Ground.chain }, { on := 27, ground := Ground.guard }], guard := some (27, false) }) rfl (fun K hK => ?_) AllReadyH.nil
          go_simp
          (go_at_call 13; have hq_ : w15 = w15 := rfl; clear hq_; (refine (PRf.galoisref23_Equal.calls K13 m1 At ct M2 m1 A15 c15 M2 true _ (Kd.C_below HGT.out bel0) HGTc.out (Kd.C_below HY.out bel0) HYc.out H13.out).mono ?_); rintro e w16 ⟨rfl, hb16⟩; have hw16 := below_step (w := w15) bel0 hb16; replace HB := Aside0.mk (below_step HB.out hw16); replace HG := Aside0.mk (Kd.C_below HG.out hw16); replace HH := Aside0.mk (Kd.C_below HH.out hw16); replace hx0 := cell_move hx0 (fun hlt => hw16.block _ hlt); replace hx1 := cell_move hx1 (fun hlt => hw16.block _ hlt); replace hy0 := cell_move hy0 (fun hlt => hw16.block _ hlt); replace hy1 := cell_move hy1 (fun hlt => hw16.block _ hlt); replace HGS := Aside0.mk (Kd.C_below HGS.out hw16); replace HGT := Aside0.mk (Kd.C_below HGT.out hw16); replace hs0 := cell_move hs0 (fun hlt => hw16.block _ hlt); replace hs1 := cell_move hs1 (fun hlt => hw16.block _ hlt); replace ht0 := cell_move ht0 (fun hlt => hw16.block _ hlt); replace ht1 := cell_move ht1 (fun hlt => hw16.block _ hlt); replace HE := Aside0.mk (Kd.C_below HE.out hw16); replace HF := Aside0.mk (Kd.C_below HF.out hw16); replace HBL := Aside0.mk (below_step HBL.out hw16); replace HX := Aside0.mk (Kd.C_below HX.out hw16); replace HY := Aside0.mk (Kd.C_below HY.out hw16); clear hb16 hw16)
          refine hK.out _ _ ?_ (fun hHeld => ?_)
          · exact ⟨hx0, ht0, ht1⟩
          clear hK K
          try simp only [Act.put, List.setIfInBounds_toArray, List.set_cons_zero, List.set_cons_succ]
          refine wpAnyH_take (i := 36) (oi := { dst := some 146, op := Op.unOp UnOp.not 4 (Operand.tmp 145), type := 4, pos := "law.go:112", after := #[{ on := 35, ground := Ground.data }, { on := 27, ground := Ground.guard }], guard := some (27, false) }) (v := ?_) rfl (by kernel_rfl) (by kernel_rfl) (by kernel_rfl) (fun _ _ _ h => h) (Or.inl ⟨by rfl, ?_⟩) (by assumption) ?_
          rotate_left 1
          · (intro w hSw; (try dsimp only at hSw); go_simp; (try with_reducible rfl))
          try simp only [Act.put, List.setIfInBounds_toArray, List.set_cons_zero, List.set_cons_succ]
          refine wpAnyH_take (i := 37) (oi := { dst := some 147, op := Op.pick (Operand.tmp 137) (Operand.const (Value.bool true)) (Operand.tmp 146), type := 4, pos := "law.go:112", after := #[{ on := 27, ground := Ground.data }, { on := 36, ground := Ground.data }], guard := none }) (v := ?_) rfl (by kernel_rfl) (by kernel_rfl) (by kernel_rfl) (fun _ _ _ h => h) (Or.inl ⟨by rfl, ?_⟩) (by assumption) ?_
          rotate_left 1
          · (intro w hSw; (try dsimp only at hSw); go_simp; (try with_reducible rfl))
          try simp only [Act.put, List.setIfInBounds_toArray, List.set_cons_zero, List.set_cons_succ]
          refine wpAnyH_done (by kernel_rfl) ?_ _
          go_wp2_with fail
          go_meet
          exact ⟨(by first | rfl | simp), HBL⟩
        · rcases hcs with ⟨rfl, rfl, rfl, hle⟩ | ⟨rfl, rfl, rfl, hle⟩
          all_goals
            refine wp_region_held_drew (S := (fun w' => w'.cell? ⟨w.heap.size, 0, none⟩ = some (.int .i64 a) ∧ w'.cell? ⟨tb, 0, none⟩ = some (.int .i64 m1) ∧ w'.cell? ⟨tb, 1, none⟩ = some (.slice At M2.length ct))) (by kernel_rfl) ?_ (fun hHeld => ?_)
            · exact ⟨hx0, ht0, ht1⟩
            refine wpAnyH_take (i := 0) (oi := { dst := some 110, op := Op.move (Operand.tmp 6), type := 27, pos := "law.go:112", after := #[], guard := none }) (v := ?_) rfl (by kernel_rfl) (by kernel_rfl) (by kernel_rfl) (fun _ _ _ h => h) (Or.inl ⟨by rfl, ?_⟩) (by assumption) ?_
            rotate_left 1
            · (intro w hSw; (try dsimp only at hSw); go_simp; (try with_reducible rfl))
            try simp only [Act.put, List.setIfInBounds_toArray, List.set_cons_zero, List.set_cons_succ]
            refine wpAnyH_take (i := 1) (oi := { dst := some 111, op := Op.binOp BinOp.neq 27 (Operand.tmp 110) (Operand.const (Value.int IntKind.i64 0)) 27, type := 4, pos := "law.go:112", after := #[{ on := 0, ground := Ground.data }], guard := none }) (v := ?_) rfl (by kernel_rfl) (by kernel_rfl) (by kernel_rfl) (fun _ _ _ h => h) (Or.inl ⟨by rfl, ?_⟩) (by assumption) ?_
            rotate_left 1
            · (intro w hSw; (try dsimp only at hSw); go_simp; (try with_reducible rfl))
            try simp only [Act.put, List.setIfInBounds_toArray, List.set_cons_zero, List.set_cons_succ]
            refine wpAnyH_take (i := 2) (oi := { dst := some 112, op := Op.move (Operand.tmp 111), type := 4, pos := "law.go:112", after := #[{ on := 1, ground := Ground.data }], guard := none }) (v := ?_) rfl (by kernel_rfl) (by kernel_rfl) (by kernel_rfl) (fun _ _ _ h => h) (Or.inl ⟨by rfl, ?_⟩) (by assumption) ?_
            rotate_left 1
            · (intro w hSw; (try dsimp only at hSw); go_simp; (try with_reducible rfl))
            try simp only [Act.put, List.setIfInBounds_toArray, List.set_cons_zero, List.set_cons_succ]
            refine wpAnyH_take (i := 3) (oi := { dst := some 113, op := Op.move (Operand.tmp 5), type := 4, pos := "law.go:112", after := #[{ on := 2, ground := Ground.guard }], guard := some (2, false) }) (v := ?_) rfl (by kernel_rfl) (by kernel_rfl) (by kernel_rfl) (fun _ _ _ h => h) (Or.inl ⟨by rfl, ?_⟩) (by assumption) ?_
            rotate_left 1
            · (intro w hSw; (try dsimp only at hSw); go_simp; (try with_reducible rfl))
            try simp only [Act.put, List.setIfInBounds_toArray, List.set_cons_zero, List.set_cons_succ]
            refine wpAnyH_take (i := 4) (oi := { dst := some 114, op := Op.move (Operand.tmp 19), type := 4, pos := "law.go:112", after := #[{ on := 2, ground := Ground.guard }], guard := some (2, false) }) (v := ?_) rfl (by kernel_rfl) (by kernel_rfl) (by kernel_rfl) (fun _ _ _ h => h) (Or.inl ⟨by rfl, ?_⟩) (by assumption) ?_
            rotate_left 1
            · (intro w hSw; (try dsimp only at hSw); go_simp; (try with_reducible rfl))
            try simp only [Act.put, List.setIfInBounds_toArray, List.set_cons_zero, List.set_cons_succ]
            refine wpAnyH_take (i := 5) (oi := { dst := some 115, op := Op.binOp BinOp.neq 4 (Operand.tmp 113) (Operand.tmp 114) 4, type := 4, pos := "law.go:112", after := #[{ on := 3, ground := Ground.data }, { on := 4, ground := Ground.data }, { on := 2, ground := Ground.guard }], guard := some (2, false) }) (v := ?_) rfl (by kernel_rfl) (by kernel_rfl) (by kernel_rfl) (fun _ _ _ h => h) (Or.inl ⟨by rfl, ?_⟩) (by assumption) ?_
            rotate_left 1
            · (intro w hSw; (try dsimp only at hSw); go_simp; (try with_reducible rfl))
            try simp only [Act.put, List.setIfInBounds_toArray, List.set_cons_zero, List.set_cons_succ]
            refine wpAnyH_take (i := 6) (oi := { dst := some 116, op := Op.pick (Operand.tmp 112) (Operand.const (Value.bool true)) (Operand.tmp 115), type := 4, pos := "law.go:112", after := #[{ on := 2, ground := Ground.data }, { on := 5, ground := Ground.data }], guard := none }) (v := ?_) rfl (by kernel_rfl) (by kernel_rfl) (by kernel_rfl) (fun _ _ _ h => h) (Or.inl ⟨by rfl, ?_⟩) (by assumption) ?_
            rotate_left 1
            · (intro w hSw; (try dsimp only at hSw); go_simp; (try with_reducible rfl))
            try simp only [Act.put, List.setIfInBounds_toArray, List.set_cons_zero, List.set_cons_succ]
            refine wpAnyH_take (i := 7) (oi := { dst := some 117, op := Op.move (Operand.tmp 116), type := 4, pos := "law.go:112", after := #[{ on := 6, ground := Ground.data }, { on := 2, ground := Ground.chain }], guard := none }) (v := ?_) rfl (by kernel_rfl) (by kernel_rfl) (by kernel_rfl) (fun _ _ _ h => h) (Or.inl ⟨by rfl, ?_⟩) (by assumption) ?_
            rotate_left 1
            · (intro w hSw; (try dsimp only at hSw); go_simp; (try with_reducible rfl))
            try simp only [Act.put, List.setIfInBounds_toArray, List.set_cons_zero, List.set_cons_succ]
            refine wpAnyH_take (i := 8) (oi := { dst := some 118, op := Op.move (Operand.tmp 8), type := 27, pos := "law.go:112", after := #[{ on := 7, ground := Ground.guard }], guard := some (7, false) }) (v := ?_) rfl (by kernel_rfl) (by kernel_rfl) (by kernel_rfl) (fun _ _ _ h => h) (Or.inl ⟨by rfl, ?_⟩) (by assumption) ?_
            rotate_left 1
            · (intro w hSw; (try dsimp only at hSw); go_simp; (try with_reducible rfl))
            try simp only [Act.put, List.setIfInBounds_toArray, List.set_cons_zero, List.set_cons_succ]
            refine wpAnyH_take (i := 9) (oi := { dst := some 119, op := Op.binOp BinOp.neq 27 (Operand.tmp 118) (Operand.const (Value.int IntKind.i64 0)) 27, type := 4, pos := "law.go:112", after := #[{ on := 8, ground := Ground.data }, { on := 7, ground := Ground.guard }], guard := some (7, false) }) (v := ?_) rfl (by kernel_rfl) (by kernel_rfl) (by kernel_rfl) (fun _ _ _ h => h) (Or.inl ⟨by rfl, ?_⟩) (by assumption) ?_
            rotate_left 1
            · (intro w hSw; (try dsimp only at hSw); go_simp; (try with_reducible rfl))
            try simp only [Act.put, List.setIfInBounds_toArray, List.set_cons_zero, List.set_cons_succ]
            refine wpAnyH_take (i := 10) (oi := { dst := some 120, op := Op.pick (Operand.tmp 117) (Operand.const (Value.bool true)) (Operand.tmp 119), type := 4, pos := "law.go:112", after := #[{ on := 7, ground := Ground.data }, { on := 9, ground := Ground.data }], guard := none }) (v := ?_) rfl (by kernel_rfl) (by kernel_rfl) (by kernel_rfl) (fun _ _ _ h => h) (Or.inl ⟨by rfl, ?_⟩) (by assumption) ?_
            rotate_left 1
            · (intro w hSw; (try dsimp only at hSw); go_simp; (try with_reducible rfl))
            try simp only [Act.put, List.setIfInBounds_toArray, List.set_cons_zero, List.set_cons_succ]
            refine wpAnyH_take (i := 11) (oi := { dst := some 121, op := Op.move (Operand.tmp 120), type := 4, pos := "law.go:112", after := #[{ on := 10, ground := Ground.data }, { on := 7, ground := Ground.chain }], guard := none }) (v := ?_) rfl (by kernel_rfl) (by kernel_rfl) (by kernel_rfl) (fun _ _ _ h => h) (Or.inl ⟨by rfl, ?_⟩) (by assumption) ?_
            rotate_left 1
            · (intro w hSw; (try dsimp only at hSw); go_simp; (try with_reducible rfl))
            try simp only [Act.put, List.setIfInBounds_toArray, List.set_cons_zero, List.set_cons_succ]
            refine wpAnyH_take (i := 12) (oi := { dst := some 122, op := Op.move (Operand.tmp 7), type := 4, pos := "law.go:112", after := #[{ on := 11, ground := Ground.guard }], guard := some (11, false) }) (v := ?_) rfl (by kernel_rfl) (by kernel_rfl) (by kernel_rfl) (fun _ _ _ h => h) (Or.inl ⟨by rfl, ?_⟩) (by assumption) ?_
            rotate_left 1
            · (intro w hSw; (try dsimp only at hSw); go_simp; (try with_reducible rfl))
            try simp only [Act.put, List.setIfInBounds_toArray, List.set_cons_zero, List.set_cons_succ]
            refine wpAnyH_take (i := 13) (oi := { dst := some 123, op := Op.move (Operand.tmp 19), type := 4, pos := "law.go:112", after := #[{ on := 11, ground := Ground.guard }], guard := some (11, false) }) (v := ?_) rfl (by kernel_rfl) (by kernel_rfl) (by kernel_rfl) (fun _ _ _ h => h) (Or.inl ⟨by rfl, ?_⟩) (by assumption) ?_
            rotate_left 1
            · (intro w hSw; (try dsimp only at hSw); go_simp; (try with_reducible rfl))
            try simp only [Act.put, List.setIfInBounds_toArray, List.set_cons_zero, List.set_cons_succ]
            refine wpAnyH_take (i := 14) (oi := { dst := some 124, op := Op.move (Operand.tmp 123), type := 4, pos := "law.go:112", after := #[{ on := 13, ground := Ground.data }, { on := 11, ground := Ground.chain }, { on := 11, ground := Ground.guard }], guard := some (11, false) }) (v := ?_) rfl (by kernel_rfl) (by kernel_rfl) (by kernel_rfl) (fun _ _ _ h => h) (Or.inl ⟨by rfl, ?_⟩) (by assumption) ?_
            rotate_left 1
            · (intro w hSw; (try dsimp only at hSw); go_simp; (try with_reducible rfl))
            try simp only [Act.put, List.setIfInBounds_toArray, List.set_cons_zero, List.set_cons_succ]
            refine wpAnyH_take (i := 15) (oi := { dst := some 125, op := Op.move (Operand.tmp 15), type := 22, pos := "law.go:112", after := #[{ on := 14, ground := Ground.guard }], guard := some (14, true) }) (v := ?_) rfl (by kernel_rfl) (by kernel_rfl) (by kernel_rfl) (fun _ _ _ h => h) (Or.inl ⟨by rfl, ?_⟩) (by assumption) ?_
            rotate_left 1
            · (intro w hSw; (try dsimp only at hSw); go_simp; (try with_reducible rfl))
            try simp only [Act.put, List.setIfInBounds_toArray, List.set_cons_zero, List.set_cons_succ]
            refine wpAnyH_take (i := 16) (oi := { dst := some 126, op := Op.call { callee := Callee.builtin Builtin.len, args := #[Operand.tmp 125], argTypes := #[22] }, type := 3, pos := "law.go:112", after := #[{ on := 15, ground := Ground.data }, { on := 14, ground := Ground.guard }], guard := some (14, true) }) (v := ?_) rfl (by kernel_rfl) (by kernel_rfl) (by kernel_rfl) (fun _ _ _ h => h) (Or.inl ⟨by rfl, ?_⟩) (by assumption) ?_
            rotate_left 1
            · (intro w hSw; (try dsimp only at hSw); go_simp; (try with_reducible rfl))
            try simp only [Act.put, List.setIfInBounds_toArray, List.set_cons_zero, List.set_cons_succ]
            refine wpAnyH_take (i := 17) (oi := { dst := some 127, op := Op.move (Operand.tmp 17), type := 22, pos := "law.go:112", after := #[{ on := 14, ground := Ground.guard }], guard := some (14, true) }) (v := ?_) rfl (by kernel_rfl) (by kernel_rfl) (by kernel_rfl) (fun _ _ _ h => h) (Or.inl ⟨by rfl, ?_⟩) (by assumption) ?_
            rotate_left 1
            · (intro w hSw; (try dsimp only at hSw); go_simp; (try with_reducible rfl))
            try simp only [Act.put, List.setIfInBounds_toArray, List.set_cons_zero, List.set_cons_succ]
            refine wpAnyH_take (i := 18) (oi := { dst := some 128, op := Op.call { callee := Callee.builtin Builtin.len, args := #[Operand.tmp 127], argTypes := #[22] }, type := 3, pos := "law.go:112", after := #[{ on := 17, ground := Ground.data }, { on := 14, ground := Ground.guard }], guard := some (14, true) }) (v := ?_) rfl (by kernel_rfl) (by kernel_rfl) (by kernel_rfl) (fun _ _ _ h => h) (Or.inl ⟨by rfl, ?_⟩) (by assumption) ?_
            rotate_left 1
            · (intro w hSw; (try dsimp only at hSw); go_simp; (try with_reducible rfl))
            try simp only [Act.put, List.setIfInBounds_toArray, List.set_cons_zero, List.set_cons_succ]
            refine wpAnyH_take (i := 19) (oi := { dst := some 129, op := Op.binOp BinOp.eql 3 (Operand.tmp 126) (Operand.tmp 128) 3, type := 4, pos := "law.go:112", after := #[{ on := 16, ground := Ground.data }, { on := 18, ground := Ground.data }, { on := 14, ground := Ground.guard }], guard := some (14, true) }) (v := ?_) rfl (by kernel_rfl) (by kernel_rfl) (by kernel_rfl) (fun _ _ _ h => h) (Or.inl ⟨by rfl, ?_⟩) (by assumption) ?_
            rotate_left 1
            · (intro w hSw; (try dsimp only at hSw); go_simp; (try with_reducible rfl))
            try simp only [Act.put, List.setIfInBounds_toArray, List.set_cons_zero, List.set_cons_succ]
            refine wpAnyH_take (i := 20) (oi := { dst := some 130, op := Op.pick (Operand.tmp 124) (Operand.tmp 129) (Operand.const (Value.bool false)), type := 4, pos := "law.go:112", after := #[{ on := 14, ground := Ground.data }, { on := 19, ground := Ground.data }, { on := 11, ground := Ground.guard }], guard := some (11, false) }) (v := ?_) rfl (by kernel_rfl) (by kernel_rfl) (by kernel_rfl) (fun _ _ _ h => h) (Or.inl ⟨by rfl, ?_⟩) (by assumption) ?_
            rotate_left 1
            · (intro w hSw; (try dsimp only at hSw); go_simp; (try with_reducible rfl))
            try simp only [Act.put, List.setIfInBounds_toArray, List.set_cons_zero, List.set_cons_succ]
            refine wpAnyH_take (i := 21) (oi := { dst := some 131, op := Op.binOp BinOp.neq 4 (Operand.tmp 122) (Operand.tmp 130) 4, type := 4, pos := "law.go:112", after := #[{ on := 12, ground := Ground.data }, { on := 20, ground := Ground.data }, { on := 11, ground := Ground.guard }], guard := some (11, false) }) (v := ?_) rfl (by kernel_rfl) (by kernel_rfl) (by kernel_rfl) (fun _ _ _ h => h) (Or.inl ⟨by rfl, ?_⟩) (by assumption) ?_
            rotate_left 1
            · (intro w hSw; (try dsimp only at hSw); go_simp; (try with_reducible rfl))
            try simp only [Act.put, List.setIfInBounds_toArray, List.set_cons_zero, List.set_cons_succ]
            refine wpAnyH_take (i := 22) (oi := { dst := some 132, op := Op.pick (Operand.tmp 121) (Operand.const (Value.bool true)) (Operand.tmp 131), type := 4, pos := "law.go:112", after := #[{ on := 11, ground := Ground.data }, { on := 21, ground := Ground.data }], guard := none }) (v := ?_) rfl (by kernel_rfl) (by kernel_rfl) (by kernel_rfl) (fun _ _ _ h => h) (Or.inl ⟨by rfl, ?_⟩) (by assumption) ?_
            rotate_left 1
            · (intro w hSw; (try dsimp only at hSw); go_simp; (try with_reducible rfl))
            try simp only [Act.put, List.setIfInBounds_toArray, List.set_cons_zero, List.set_cons_succ]
            refine wpAnyH_take (i := 23) (oi := { dst := some 133, op := Op.move (Operand.tmp 132), type := 4, pos := "law.go:112", after := #[{ on := 22, ground := Ground.data }, { on := 14, ground := Ground.chain }], guard := none }) (v := ?_) rfl (by kernel_rfl) (by kernel_rfl) (by kernel_rfl) (fun _ _ _ h => h) (Or.inl ⟨by rfl, ?_⟩) (by assumption) ?_
            rotate_left 1
            · (intro w hSw; (try dsimp only at hSw); go_simp; (try with_reducible rfl))
            try simp only [Act.put, List.setIfInBounds_toArray, List.set_cons_zero, List.set_cons_succ]
            refine wpAnyH_take (i := 24) (oi := { dst := some 134, op := Op.move (Operand.tmp 12), type := 27, pos := "law.go:112", after := #[{ on := 23, ground := Ground.guard }], guard := some (23, false) }) (v := ?_) rfl (by kernel_rfl) (by kernel_rfl) (by kernel_rfl) (fun _ _ _ h => h) (Or.inl ⟨by rfl, ?_⟩) (by assumption) ?_
            rotate_left 1
            · (intro w hSw; (try dsimp only at hSw); go_simp; (try with_reducible rfl))
            try simp only [Act.put, List.setIfInBounds_toArray, List.set_cons_zero, List.set_cons_succ]
            refine wpAnyH_take (i := 25) (oi := { dst := some 135, op := Op.binOp BinOp.neq 27 (Operand.tmp 134) (Operand.const (Value.int IntKind.i64 0)) 27, type := 4, pos := "law.go:112", after := #[{ on := 24, ground := Ground.data }, { on := 23, ground := Ground.guard }], guard := some (23, false) }) (v := ?_) rfl (by kernel_rfl) (by kernel_rfl) (by kernel_rfl) (fun _ _ _ h => h) (Or.inl ⟨by rfl, ?_⟩) (by assumption) ?_
            rotate_left 1
            · (intro w hSw; (try dsimp only at hSw); go_simp; (try with_reducible rfl))
            try simp only [Act.put, List.setIfInBounds_toArray, List.set_cons_zero, List.set_cons_succ]
            refine wpAnyH_take (i := 26) (oi := { dst := some 136, op := Op.pick (Operand.tmp 133) (Operand.const (Value.bool true)) (Operand.tmp 135), type := 4, pos := "law.go:112", after := #[{ on := 23, ground := Ground.data }, { on := 25, ground := Ground.data }], guard := none }) (v := ?_) rfl (by kernel_rfl) (by kernel_rfl) (by kernel_rfl) (fun _ _ _ h => h) (Or.inl ⟨by rfl, ?_⟩) (by assumption) ?_
            rotate_left 1
            · (intro w hSw; (try dsimp only at hSw); go_simp; (try with_reducible rfl))
            try simp only [Act.put, List.setIfInBounds_toArray, List.set_cons_zero, List.set_cons_succ]
            refine wpAnyH_take (i := 27) (oi := { dst := some 137, op := Op.move (Operand.tmp 136), type := 4, pos := "law.go:112", after := #[{ on := 26, ground := Ground.data }, { on := 23, ground := Ground.chain }], guard := none }) (v := ?_) rfl (by kernel_rfl) (by kernel_rfl) (by kernel_rfl) (fun _ _ _ h => h) (Or.inl ⟨by rfl, ?_⟩) (by assumption) ?_
            rotate_left 1
            · (intro w hSw; (try dsimp only at hSw); go_simp; (try with_reducible rfl))
            try simp only [Act.put, List.setIfInBounds_toArray, List.set_cons_zero, List.set_cons_succ]
            refine wpAnyH_take (i := 28) (oi := { dst := some 138, op := Op.load 24 (Operand.tmp 11), type := 24, pos := "law.go:112", after := #[{ on := 27, ground := Ground.guard }], guard := some (27, false) }) (v := ?_) rfl (by kernel_rfl) (by kernel_rfl) (by kernel_rfl) (fun _ _ _ h => h) (Or.inl ⟨by rfl, ?_⟩) (by assumption) ?_
            rotate_left 1
            · (intro w hSw; (try dsimp only at hSw); go_simp; (try with_reducible rfl))
            try simp only [Act.put, List.setIfInBounds_toArray, List.set_cons_zero, List.set_cons_succ]
            refine wpAnyH_take (i := 29) (oi := { dst := some 139, op := Op.fieldAddr 24 (Operand.tmp 2) 0, type := 0, pos := "law.go:112", after := #[{ on := 27, ground := Ground.guard }], guard := some (27, false) }) (v := ?_) rfl (by kernel_rfl) (by kernel_rfl) (by kernel_rfl) (fun _ _ _ h => h) (Or.inl ⟨by rfl, ?_⟩) (by assumption) ?_
            rotate_left 1
            · (intro w hSw; (try dsimp only at hSw); go_simp; (try with_reducible rfl))
            try simp only [Act.put, List.setIfInBounds_toArray, List.set_cons_zero, List.set_cons_succ]
            refine wpAnyH_take (i := 30) (oi := { dst := some 140, op := Op.load 3 (Operand.tmp 139), type := 3, pos := "law.go:112", after := #[{ on := 29, ground := Ground.data }, { on := 27, ground := Ground.guard }], guard := some (27, false) }) (v := ?_) rfl (by kernel_rfl) (by kernel_rfl) (by kernel_rfl) (fun _ _ _ h => h) (Or.inl ⟨by rfl, ?_⟩) (by assumption) ?_
            rotate_left 1
            · (intro w hSw; (try dsimp only at hSw); go_simp; (try with_reducible rfl))
            try simp only [Act.put, List.setIfInBounds_toArray, List.set_cons_zero, List.set_cons_succ]
            refine wpAnyH_take (i := 31) (oi := { dst := some 141, op := Op.move (Operand.tmp 15), type := 22, pos := "law.go:112", after := #[{ on := 27, ground := Ground.guard }], guard := some (27, false) }) (v := ?_) rfl (by kernel_rfl) (by kernel_rfl) (by kernel_rfl) (fun _ _ _ h => h) (Or.inl ⟨by rfl, ?_⟩) (by assumption) ?_
            rotate_left 1
            · (intro w hSw; (try dsimp only at hSw); go_simp; (try with_reducible rfl))
            try simp only [Act.put, List.setIfInBounds_toArray, List.set_cons_zero, List.set_cons_succ]
            refine wpAnyH_take (i := 32) (oi := { dst := some 142, op := Op.move (Operand.tmp 17), type := 22, pos := "law.go:112", after := #[{ on := 27, ground := Ground.guard }], guard := some (27, false) }) (v := ?_) rfl (by kernel_rfl) (by kernel_rfl) (by kernel_rfl) (fun _ _ _ h => h) (Or.inl ⟨by rfl, ?_⟩) (by assumption) ?_
            rotate_left 1
            · (intro w hSw; (try dsimp only at hSw); go_simp; (try with_reducible rfl))
            try simp only [Act.put, List.setIfInBounds_toArray, List.set_cons_zero, List.set_cons_succ]
            refine wpAnyH_ready (rs := [33]) (by kernel_rfl) (by simp) ?_
            refine AllReadyH.cons (o := { dst := some 143, op := Op.call { callee := Callee.value (Operand.func 34), args := #[Operand.tmp 141, Operand.tmp 142], argTypes := #[22, 22] }, type := 22, pos := "law.go:112", after := #[{ on := 31, ground := Ground.data }, { on := 32, ground := Ground.data }, { on := 27, ground := Ground.chain }, { on := 27, ground := Ground.guard }], guard := some (27, false) }) rfl (fun K hK => ?_) AllReadyH.nil
            go_simp
            (go_at_call 34; have hq_ : w13 = w13 := rfl; clear hq_; (refine (common_C K11 A11 c11 E A12 c12 F X _ (Kd.C_below HE.out bel0) HEc.out (Kd.C_below HF.out bel0) HFc.out H11.out).mono ?_); rintro e w14 ⟨A14, c14, rfl, hc14, hC14, hb14⟩; have hw14 := below_step (w := w13) bel0 hb14; replace HB := Aside0.mk (below_step HB.out hw14); replace HG := Aside0.mk (Kd.C_below HG.out hw14); replace HH := Aside0.mk (Kd.C_below HH.out hw14); replace hx0 := cell_move hx0 (fun hlt => hw14.block _ hlt); replace hx1 := cell_move hx1 (fun hlt => hw14.block _ hlt); replace hy0 := cell_move hy0 (fun hlt => hw14.block _ hlt); replace hy1 := cell_move hy1 (fun hlt => hw14.block _ hlt); replace HGS := Aside0.mk (Kd.C_below HGS.out hw14); replace HGT := Aside0.mk (Kd.C_below HGT.out hw14); replace hs0 := cell_move hs0 (fun hlt => hw14.block _ hlt); replace hs1 := cell_move hs1 (fun hlt => hw14.block _ hlt); replace ht0 := cell_move ht0 (fun hlt => hw14.block _ hlt); replace ht1 := cell_move ht1 (fun hlt => hw14.block _ hlt); replace HE := Aside0.mk (Kd.C_below HE.out hw14); replace HF := Aside0.mk (Kd.C_below HF.out hw14); replace HBL := Aside0.mk (below_step HBL.out hw14); have HX := Aside0.mk hC14; have HXc := Aside0.mk hc14; clear hC14 hc14; clear hb14 hw14)
            refine hK.out _ _ ?_ (fun hHeld => ?_)
            · exact ⟨hx0, ht0, ht1⟩
            clear hK K
            try simp only [Act.put, List.setIfInBounds_toArray, List.set_cons_zero, List.set_cons_succ]
            refine wpAnyH_ready (rs := [34]) (by kernel_rfl) (by simp) ?_
            refine AllReadyH.cons (o := { dst := some 144, op := Op.call { callee := Callee.value (Operand.func 14), args := #[Operand.tmp 140, Operand.tmp 143], argTypes := #[3, 22] }, type := 24, pos := "law.go:112", after := #[{ on := 30, ground := Ground.data }, { on := 33, ground := Ground.data }, { on := 33, ground := Ground.chain }, { on := 27, ground := Ground.guard }], guard := some (27, false) }) rfl (fun K hK => ?_) AllReadyH.nil
            go_simp
            (go_at_call 14; have hq_ : w14 = w14 := rfl; clear hq_; (refine (greedy_C K12 a A14 c14 X m1 M2 _ (Kd.C_below HX.out bel0) HXc.out H12.out).mono ?_); rintro e w15 ⟨A15, c15, rfl, hc15, hC15, hb15⟩; have hw15 := below_step (w := w14) bel0 hb15; replace HB := Aside0.mk (below_step HB.out hw15); replace HG := Aside0.mk (Kd.C_below HG.out hw15); replace HH := Aside0.mk (Kd.C_below HH.out hw15); replace hx0 := cell_move hx0 (fun hlt => hw15.block _ hlt); replace hx1 := cell_move hx1 (fun hlt => hw15.block _ hlt); replace hy0 := cell_move hy0 (fun hlt => hw15.block _ hlt); replace hy1 := cell_move hy1 (fun hlt => hw15.block _ hlt); replace HGS := Aside0.mk (Kd.C_below HGS.out hw15); replace HGT := Aside0.mk (Kd.C_below HGT.out hw15); replace hs0 := cell_move hs0 (fun hlt => hw15.block _ hlt); replace hs1 := cell_move hs1 (fun hlt => hw15.block _ hlt); replace ht0 := cell_move ht0 (fun hlt => hw15.block _ hlt); replace ht1 := cell_move ht1 (fun hlt => hw15.block _ hlt); replace HE := Aside0.mk (Kd.C_below HE.out hw15); replace HF := Aside0.mk (Kd.C_below HF.out hw15); replace HBL := Aside0.mk (below_step HBL.out hw15); replace HX := Aside0.mk (Kd.C_below HX.out hw15); have HY := Aside0.mk hC15; have HYc := Aside0.mk hc15; clear hC15 hc15; clear hb15 hw15)
            refine hK.out _ _ ?_ (fun hHeld => ?_)
            · exact ⟨hx0, ht0, ht1⟩
            clear hK K
            try simp only [Act.put, List.setIfInBounds_toArray, List.set_cons_zero, List.set_cons_succ]
            refine wpAnyH_ready (rs := [35]) (by kernel_rfl) (by simp) ?_
            refine AllReadyH.cons (o := { dst := some 145, op := Op.call { callee := Callee.value (Operand.func 13), args := #[Operand.tmp 138, Operand.tmp 144], argTypes := #[24, 24] }, type := 4, pos := "law.go:112", after := #[{ on := 28, ground := Ground.data }, { on := 34, ground := Ground.data }, { on := 34, ground := Ground.chain }, { on := 27, ground := Ground.guard }], guard := some (27, false) }) rfl (fun K hK => ?_) AllReadyH.nil
            go_simp
            (go_at_call 13; have hq_ : w15 = w15 := rfl; clear hq_; (refine (PRf.galoisref23_Equal.calls K13 m1 At ct M2 m1 A15 c15 M2 true _ (Kd.C_below HGT.out bel0) HGTc.out (Kd.C_below HY.out bel0) HYc.out H13.out).mono ?_); rintro e w16 ⟨rfl, hb16⟩; have hw16 := below_step (w := w15) bel0 hb16; replace HB := Aside0.mk (below_step HB.out hw16); replace HG := Aside0.mk (Kd.C_below HG.out hw16); replace HH := Aside0.mk (Kd.C_below HH.out hw16); replace hx0 := cell_move hx0 (fun hlt => hw16.block _ hlt); replace hx1 := cell_move hx1 (fun hlt => hw16.block _ hlt); replace hy0 := cell_move hy0 (fun hlt => hw16.block _ hlt); replace hy1 := cell_move hy1 (fun hlt => hw16.block _ hlt); replace HGS := Aside0.mk (Kd.C_below HGS.out hw16); replace HGT := Aside0.mk (Kd.C_below HGT.out hw16); replace hs0 := cell_move hs0 (fun hlt => hw16.block _ hlt); replace hs1 := cell_move hs1 (fun hlt => hw16.block _ hlt); replace ht0 := cell_move ht0 (fun hlt => hw16.block _ hlt); replace ht1 := cell_move ht1 (fun hlt => hw16.block _ hlt); replace HE := Aside0.mk (Kd.C_below HE.out hw16); replace HF := Aside0.mk (Kd.C_below HF.out hw16); replace HBL := Aside0.mk (below_step HBL.out hw16); replace HX := Aside0.mk (Kd.C_below HX.out hw16); replace HY := Aside0.mk (Kd.C_below HY.out hw16); clear hb16 hw16)
            refine hK.out _ _ ?_ (fun hHeld => ?_)
            · exact ⟨hx0, ht0, ht1⟩
            clear hK K
            try simp only [Act.put, List.setIfInBounds_toArray, List.set_cons_zero, List.set_cons_succ]
            refine wpAnyH_take (i := 36) (oi := { dst := some 146, op := Op.unOp UnOp.not 4 (Operand.tmp 145), type := 4, pos := "law.go:112", after := #[{ on := 35, ground := Ground.data }, { on := 27, ground := Ground.guard }], guard := some (27, false) }) (v := ?_) rfl (by kernel_rfl) (by kernel_rfl) (by kernel_rfl) (fun _ _ _ h => h) (Or.inl ⟨by rfl, ?_⟩) (by assumption) ?_
            rotate_left 1
            · (intro w hSw; (try dsimp only at hSw); go_simp; (try with_reducible rfl))
            try simp only [Act.put, List.setIfInBounds_toArray, List.set_cons_zero, List.set_cons_succ]
            refine wpAnyH_take (i := 37) (oi := { dst := some 147, op := Op.pick (Operand.tmp 137) (Operand.const (Value.bool true)) (Operand.tmp 146), type := 4, pos := "law.go:112", after := #[{ on := 27, ground := Ground.data }, { on := 36, ground := Ground.data }], guard := none }) (v := ?_) rfl (by kernel_rfl) (by kernel_rfl) (by kernel_rfl) (fun _ _ _ h => h) (Or.inl ⟨by rfl, ?_⟩) (by assumption) ?_
            rotate_left 1
            · (intro w hSw; (try dsimp only at hSw); go_simp; (try with_reducible rfl))
            try simp only [Act.put, List.setIfInBounds_toArray, List.set_cons_zero, List.set_cons_succ]
            refine wpAnyH_done (by kernel_rfl) ?_ _
            go_wp2_with fail
            go_meet
            exact ⟨(by first | rfl | simp), HBL⟩
      case rest =>
        obtain ⟨rfl, HBX⟩ := hcut
        replace HB := Aside0.mk (below_step HB.out HBX.out)
        replace HG := Aside0.mk (Kd.C_below HG.out HBX.out)
        replace HH := Aside0.mk (Kd.C_below HH.out HBX.out)
        replace hx0 := cell_move hx0 (fun hlt => HBX.out.block _ hlt)
        replace hx1 := cell_move hx1 (fun hlt => HBX.out.block _ hlt)
        replace hy0 := cell_move hy0 (fun hlt => HBX.out.block _ hlt)
        replace hy1 := cell_move hy1 (fun hlt => HBX.out.block _ hlt)
        replace HGS := Aside0.mk (Kd.C_below HGS.out HBX.out)
        replace HGT := Aside0.mk (Kd.C_below HGT.out HBX.out)
        replace hs0 := cell_move hs0 (fun hlt => HBX.out.block _ hlt)
        replace hs1 := cell_move hs1 (fun hlt => HBX.out.block _ hlt)
        replace ht0 := cell_move ht0 (fun hlt => HBX.out.block _ hlt)
        replace ht1 := cell_move ht1 (fun hlt => HBX.out.block _ hlt)
        replace HE := Aside0.mk (Kd.C_below HE.out HBX.out)
        replace HF := Aside0.mk (Kd.C_below HF.out HBX.out)
        clear HBX HBL
        obtain ⟨ww, hww⟩ : ∃ ww : World, ww = wc := ⟨_, rfl⟩
        subst hww
        go_upto_region 18 with fail
        refine wp_region_held_drew (S := (fun w' => w'.cell? ⟨w.heap.size, 0, none⟩ = some (.int .i64 a) ∧ w'.cell? ⟨w.heap.size, 1, none⟩ = some (.slice A0 L.length c0) ∧ w'.cell? ⟨w.heap.size + 1, 1, none⟩ = some (.slice B0 M.length d0) ∧ w'.cell? ⟨sb, 0, none⟩ = some (.int .i64 a) ∧ w'.cell? ⟨sb, 1, none⟩ = some (.slice As J2.length cs))) (by kernel_rfl) ?_ (fun hHeld => ?_)
        · exact ⟨hx0, hx1, hy1, hs0, hs1⟩
        have hbz : Below ww.heap.size ww ww.drew := below_drew (Below.refl _ _)
        have ZB := Aside0.mk (below_step HB.out hbz)
        have ZGS := Aside0.mk (Kd.C_below HGS.out hbz)
        obtain ⟨q1, hl1, hk1, hp1⟩ := C_vals (Kd.C_below HG.out hbz)
        obtain ⟨q2, hl2, hk2, hp2⟩ := C_vals (Kd.C_below HH.out hbz)
        have zx0 := cell_move hx0 (fun hlt => hbz.block _ hlt)
        have zx1 := cell_move hx1 (fun hlt => hbz.block _ hlt)
        have zy1 := cell_move hy1 (fun hlt => hbz.block _ hlt)
        have zs0 := cell_move hs0 (fun hlt => hbz.block _ hlt)
        have zs1 := cell_move hs1 (fun hlt => hbz.block _ hlt)
        clear hx0 hx1 hy0 hy1 hs0 hs1 ht0 ht1
        have hx0 := zx0
        have hx1 := zx1
        have hy1 := zy1
        have hs0 := zs0
        have hs1 := zs1
        clear hbz HB HG HH HGS HGT HGTc HE HEc HF HFc
        generalize ww.drew = wz at *
        have HL1 := Aside0.mk hl1
        have HL2 := Aside0.mk hl2
        have HP1 := Aside0.mk hp1
        have HP2 := Aside0.mk hp2
        rw [hl1] at hk1
        rw [hl2] at hk2
        have HK1 := Aside0.mk hk1
        have HK2 := Aside0.mk hk2
        have HJL : Aside0 ((q1 ++ q2).length = J2.length) := ⟨by rw [List.length_append, hl1, hl2, ← HJ.out, List.length_append]⟩
        clear hl1 hl2 hk1 hk2 hp1 hp2
        refine wpAnyH_take (i := 0) (oi := { dst := some 162, op := Op.move (Operand.tmp 10), type := 27, pos := "law.go:118", after := #[], guard := none }) (v := ?_) rfl (by kernel_rfl) (by kernel_rfl) (by kernel_rfl) (fun _ _ _ h => h) (Or.inl ⟨by rfl, ?_⟩) (by assumption) ?_
        rotate_left 1
        · (intro w hSw; (try dsimp only at hSw); go_simp; (try with_reducible rfl))
        try simp only [Act.put, List.setIfInBounds_toArray, List.set_cons_zero, List.set_cons_succ]
        refine wpAnyH_take (i := 1) (oi := { dst := some 163, op := Op.binOp BinOp.eql 27 (Operand.tmp 162) (Operand.const (Value.int IntKind.i64 0)) 27, type := 4, pos := "law.go:118", after := #[{ on := 0, ground := Ground.data }], guard := none }) (v := ?_) rfl (by kernel_rfl) (by kernel_rfl) (by kernel_rfl) (fun _ _ _ h => h) (Or.inl ⟨by rfl, ?_⟩) (by assumption) ?_
        rotate_left 1
        · (intro w hSw; (try dsimp only at hSw); go_simp; (try with_reducible rfl))
        try simp only [Act.put, List.setIfInBounds_toArray, List.set_cons_zero, List.set_cons_succ]
        refine wpAnyH_take (i := 2) (oi := { dst := some 164, op := Op.move (Operand.tmp 163), type := 4, pos := "law.go:118", after := #[{ on := 1, ground := Ground.data }], guard := none }) (v := ?_) rfl (by kernel_rfl) (by kernel_rfl) (by kernel_rfl) (fun _ _ _ h => h) (Or.inl ⟨by rfl, ?_⟩) (by assumption) ?_
        rotate_left 1
        · (intro w hSw; (try dsimp only at hSw); go_simp; (try with_reducible rfl))
        try simp only [Act.put, List.setIfInBounds_toArray, List.set_cons_zero, List.set_cons_succ]
        refine wpAnyH_take (i := 3) (oi := { dst := some 165, op := Op.load 24 (Operand.tmp 9), type := 24, pos := "law.go:118", after := #[{ on := 2, ground := Ground.guard }], guard := some (2, true) }) (v := ?_) rfl (by kernel_rfl) (by kernel_rfl) (by kernel_rfl) (fun _ _ _ h => h) (Or.inl ⟨by rfl, ?_⟩) (by assumption) ?_
        rotate_left 1
        · (intro w hSw; (try dsimp only at hSw); go_simp; (try with_reducible rfl))
        try simp only [Act.put, List.setIfInBounds_toArray, List.set_cons_zero, List.set_cons_succ]
        refine wpAnyH_take (i := 4) (oi := { dst := some 166, op := Op.fieldAddr 24 (Operand.tmp 2) 0, type := 0, pos := "law.go:118", after := #[{ on := 2, ground := Ground.guard }], guard := some (2, true) }) (v := ?_) rfl (by kernel_rfl) (by kernel_rfl) (by kernel_rfl) (fun _ _ _ h => h) (Or.inl ⟨by rfl, ?_⟩) (by assumption) ?_
        rotate_left 1
        · (intro w hSw; (try dsimp only at hSw); go_simp; (try with_reducible rfl))
        try simp only [Act.put, List.setIfInBounds_toArray, List.set_cons_zero, List.set_cons_succ]
        refine wpAnyH_take (i := 5) (oi := { dst := some 167, op := Op.load 3 (Operand.tmp 166), type := 3, pos := "law.go:118", after := #[{ on := 4, ground := Ground.data }, { on := 2, ground := Ground.guard }], guard := some (2, true) }) (v := ?_) rfl (by kernel_rfl) (by kernel_rfl) (by kernel_rfl) (fun _ _ _ h => h) (Or.inl ⟨by rfl, ?_⟩) (by assumption) ?_
        rotate_left 1
        · (intro w hSw; (try dsimp only at hSw); go_simp; (try with_reducible rfl))
        try simp only [Act.put, List.setIfInBounds_toArray, List.set_cons_zero, List.set_cons_succ]
        refine wpAnyH_take (i := 7) (oi := { dst := some 169, op := Op.fieldAddr 24 (Operand.tmp 2) 1, type := 0, pos := "law.go:118", after := #[{ on := 2, ground := Ground.guard }], guard := some (2, true) }) (v := ?_) rfl (by kernel_rfl) (by kernel_rfl) (by kernel_rfl) (fun _ _ _ h => h) (Or.inl ⟨by rfl, ?_⟩) (by assumption) ?_
        rotate_left 1
        · (intro w hSw; (try dsimp only at hSw); go_simp; (try with_reducible rfl))
        try simp only [Act.put, List.setIfInBounds_toArray, List.set_cons_zero, List.set_cons_succ]
        refine wpAnyH_take (i := 8) (oi := { dst := some 170, op := Op.load 22 (Operand.tmp 169), type := 22, pos := "law.go:118", after := #[{ on := 7, ground := Ground.data }, { on := 2, ground := Ground.guard }], guard := some (2, true) }) (v := ?_) rfl (by kernel_rfl) (by kernel_rfl) (by kernel_rfl) (fun _ _ _ h => h) (Or.inl ⟨by rfl, ?_⟩) (by assumption) ?_
        rotate_left 1
        · (intro w hSw; (try dsimp only at hSw); go_simp; (try with_reducible rfl))
        try simp only [Act.put, List.setIfInBounds_toArray, List.set_cons_zero, List.set_cons_succ]
        refine wpAnyH_take (i := 10) (oi := { dst := some 172, op := Op.fieldAddr 24 (Operand.tmp 3) 1, type := 0, pos := "law.go:118", after := #[{ on := 2, ground := Ground.guard }], guard := some (2, true) }) (v := ?_) rfl (by kernel_rfl) (by kernel_rfl) (by kernel_rfl) (fun _ _ _ h => h) (Or.inl ⟨by rfl, ?_⟩) (by assumption) ?_
        rotate_left 1
        · (intro w hSw; (try dsimp only at hSw); go_simp; (try with_reducible rfl))
        try simp only [Act.put, List.setIfInBounds_toArray, List.set_cons_zero, List.set_cons_succ]
        refine wpAnyH_take (i := 11) (oi := { dst := some 173, op := Op.load 22 (Operand.tmp 172), type := 22, pos := "law.go:118", after := #[{ on := 10, ground := Ground.data }, { on := 2, ground := Ground.guard }], guard := some (2, true) }) (v := ?_) rfl (by kernel_rfl) (by kernel_rfl) (by kernel_rfl) (fun _ _ _ h => h) (Or.inl ⟨by rfl, ?_⟩) (by assumption) ?_
        rotate_left 1
        · (intro w hSw; (try dsimp only at hSw); go_simp; (try with_reducible rfl))
        try simp only [Act.put, List.setIfInBounds_toArray, List.set_cons_zero, List.set_cons_succ]
        refine wpAnyH_ready (rs := [6]) (by kernel_rfl) (by simp) ?_
        refine AllReadyH.cons (o := { dst := some 168, op := Op.buildSlice 22 0 #[], type := 22, pos := "law.go:118", after := #[{ on := 2, ground := Ground.guard }], guard := some (2, true) }) rfl (fun K hK => ?_) AllReadyH.nil
        go_simp
        have hal : Below wz.heap.size wz (wz.alloc (.cells #[] 39)) := below_alloc (Below.refl _ _) _; replace hx0 := cell_move zx0 (fun hlt => hal.block _ hlt); replace hx1 := cell_move zx1 (fun hlt => hal.block _ hlt); replace hy1 := cell_move zy1 (fun hlt => hal.block _ hlt); replace hs0 := cell_move zs0 (fun hlt => hal.block _ hlt); replace hs1 := cell_move zs1 (fun hlt => hal.block _ hlt); clear hal
        refine hK.out _ _ ?_ (fun hHeld => ?_)
        · exact ⟨hx0, hx1, hy1, hs0, hs1⟩
        clear hK K
        try simp only [Act.put, List.setIfInBounds_toArray, List.set_cons_zero, List.set_cons_succ]
        refine wpAnyH_ready (rs := [9]) (by kernel_rfl) (by simp) ?_
        refine AllReadyH.cons (o := { dst := some 171, op := Op.call { callee := Callee.builtin Builtin.append, args := #[Operand.tmp 168, Operand.tmp 170], argTypes := #[22, 22] }, type := 22, pos := "law.go:118", after := #[{ on := 6, ground := Ground.data }, { on := 8, ground := Ground.data }, { on := 2, ground := Ground.chain }, { on := 2, ground := Ground.guard }], guard := some (2, true) }) rfl (fun K hK => ?_) AllReadyH.nil
        (refine Kd.R_append_rows_step kv (w0 := wz) wz.heap.size (by rfl) (.tmp 168) (.tmp 170) 22 39 (.slice none 0 0) 24 rfl Tryz.underlying22 perm_infoG rfl (by decide) (by omega) (.slice (some ⟨wz.heap.size, 0, none⟩) 0 0) ([] : List Sv) q1 A0 L.length c0 (fun b => wz.heap.size ≤ b) (fun _ => False) ?xs1 ?xx1 ?xO1 ?xR1 (fun x cs h => h) (fun _ h => h.elim) ?xf1 ?xB1 ?xb1 ?xl1 ?_; (case xs1 => exact rfl); (case xx1 => exact rfl); (case xO1 => exact Kd.R_mono (lit_kvs wz wz.heap.size [] (Nat.le_refl _) (Nat.zero_le _)) (fun b hb => Nat.le_of_eq (Eq.symm hb))); (case xR1 => exact Kd.C_below HK1.out bel0); (case xf1 => exact fun b hb => Nat.le_trans ((show wz.heap.size ≤ _ from by simp)) hb); (case xB1 => exact (below_alloc (Below.refl _ _) _)); (case xb1 => exact (show wz.heap.size ≤ _ from by simp)); (case xl1 => have := HSUM.out; have := HL1.out; have := HL2.out; simp; omega); intro v20 w20 ho hb hg hat; have HB20 := Aside0.mk hb; replace hx0 := cell_move zx0 (fun hlt => HB20.out.block _ hlt); replace hx1 := cell_move zx1 (fun hlt => HB20.out.block _ hlt); replace hy1 := cell_move zy1 (fun hlt => HB20.out.block _ hlt); replace hs0 := cell_move zs0 (fun hlt => HB20.out.block _ hlt); replace hs1 := cell_move zs1 (fun hlt => HB20.out.block _ hlt); rw [List.nil_append] at ho; obtain ⟨Av1, cv1, ev1⟩ := Kd.R_slice ho; subst ev1; have HO2 := Aside0.mk ho; clear ho hb hg hat)
        refine hK.out _ _ ?_ (fun hHeld => ?_)
        · exact ⟨hx0, hx1, hy1, hs0, hs1⟩
        clear hK K
        try simp only [Act.put, List.setIfInBounds_toArray, List.set_cons_zero, List.set_cons_succ]
        refine wpAnyH_ready (rs := [12]) (by kernel_rfl) (by simp) ?_
        refine AllReadyH.cons (o := { dst := some 174, op := Op.call { callee := Callee.builtin Builtin.append, args := #[Operand.tmp 171, Operand.tmp 173], argTypes := #[22, 22] }, type := 22, pos := "law.go:118", after := #[{ on := 9, ground := Ground.data }, { on := 11, ground := Ground.data }, { on := 9, ground := Ground.chain }, { on := 2, ground := Ground.guard }], guard := some (2, true) }) rfl (fun K hK => ?_) AllReadyH.nil
        (refine Kd.R_append_rows_step kv (w0 := wz) wz.heap.size (by rfl) (.tmp 171) (.tmp 173) 22 39 (.slice none 0 0) 24 rfl Tryz.underlying22 perm_infoG rfl (by decide) (by omega) (.slice Av1 q1.length cv1) q1 q2 B0 M.length d0 (fun b => wz.heap.size ≤ b) (fun _ => False) ?xs2 ?xx2 ?xO2 ?xR2 (fun x cs h => h) (fun _ h => h.elim) ?xf2 ?xB2 ?xb2 ?xl2 ?_; (case xs2 => exact rfl); (case xx2 => exact rfl); (case xO2 => exact HO2.out); (case xR2 => exact Kd.C_below HK2.out (below_step HB20.out bel0)); (case xf2 => exact fun b hb => Nat.le_trans (HB20.out.size) hb); (case xB2 => exact HB20.out); (case xb2 => exact HB20.out.size); (case xl2 => have := HSUM.out; have := HL1.out; have := HL2.out; simp; omega); intro v21 w21 ho hb hg hat; have HB21 := Aside0.mk hb; replace hx0 := cell_move zx0 (fun hlt => HB21.out.block _ hlt); replace hx1 := cell_move zx1 (fun hlt => HB21.out.block _ hlt); replace hy1 := cell_move zy1 (fun hlt => HB21.out.block _ hlt); replace hs0 := cell_move zs0 (fun hlt => HB21.out.block _ hlt); replace hs1 := cell_move zs1 (fun hlt => HB21.out.block _ hlt); obtain ⟨Av2, cv2, ev2⟩ := Kd.R_slice ho; subst ev2; have HCJ := Aside0.mk (C_of_kv ho HJL.out (cat_perm HP1.out HP2.out HL1.out HJ.out HB21.out)); rw [HJL.out] at ho ⊢; have HO3 := Aside0.mk (Kd.R_reads' ho).2.1; clear ho hb hg hat)
        refine hK.out _ _ ?_ (fun hHeld => ?_)
        · exact ⟨hx0, hx1, hy1, hs0, hs1⟩
        clear hK K
        try simp only [Act.put, List.setIfInBounds_toArray, List.set_cons_zero, List.set_cons_succ]
        refine wpAnyH_take (i := 13) (oi := { dst := some 175, op := Op.build 24 #[(0, Operand.tmp 167), (1, Operand.tmp 174)], type := 24, pos := "law.go:118", after := #[{ on := 5, ground := Ground.data }, { on := 12, ground := Ground.data }, { on := 2, ground := Ground.guard }], guard := some (2, true) }) (v := ?_) rfl (by kernel_rfl) (by kernel_rfl) (by kernel_rfl) (fun _ _ _ h => h) (Or.inl ⟨by rfl, ?_⟩) (by assumption) ?_
        rotate_left 1
        · (intro w hSw; (try dsimp only at hSw); go_simp; (try with_reducible rfl))
        try simp only [Act.put, List.setIfInBounds_toArray, List.set_cons_zero, List.set_cons_succ]
        refine wpAnyH_ready (rs := [14]) (by kernel_rfl) (by simp) ?_
        refine AllReadyH.cons (o := { dst := some 176, op := Op.call { callee := Callee.value (Operand.func 13), args := #[Operand.tmp 165, Operand.tmp 175], argTypes := #[24, 24] }, type := 4, pos := "law.go:118", after := #[{ on := 3, ground := Ground.data }, { on := 13, ground := Ground.data }, { on := 12, ground := Ground.chain }, { on := 2, ground := Ground.guard }], guard := some (2, true) }) rfl (fun K hK => ?_) AllReadyH.nil
        go_simp
        (go_at_call 13; (refine (PRf.galoisref23_Equal.calls K15 a As cs J2 a Av2 cv2 J2 true _ (Kd.C_below ZGS.out (below_step HB21.out bel0)) HGSc.out (Kd.C_below HCJ.out bel0) HO3.out H15.out).mono ?_); rintro e w22 ⟨rfl, hb22⟩; have HB22 := Aside0.mk (below_step HB21.out (below_step (w := w21) bel0 hb22)); replace hx0 := cell_move zx0 (fun hlt => HB22.out.block _ hlt); replace hx1 := cell_move zx1 (fun hlt => HB22.out.block _ hlt); replace hy1 := cell_move zy1 (fun hlt => HB22.out.block _ hlt); replace hs0 := cell_move zs0 (fun hlt => HB22.out.block _ hlt); replace hs1 := cell_move zs1 (fun hlt => HB22.out.block _ hlt); clear hb22)
        refine hK.out _ _ ?_ (fun hHeld => ?_)
        · exact ⟨hx0, hx1, hy1, hs0, hs1⟩
        clear hK K
        try simp only [Act.put, List.setIfInBounds_toArray, List.set_cons_zero, List.set_cons_succ]
        refine wpAnyH_take (i := 15) (oi := { dst := some 177, op := Op.pick (Operand.tmp 164) (Operand.tmp 176) (Operand.const (Value.bool false)), type := 4, pos := "law.go:118", after := #[{ on := 2, ground := Ground.data }, { on := 14, ground := Ground.data }], guard := none }) (v := ?_) rfl (by kernel_rfl) (by kernel_rfl) (by kernel_rfl) (fun _ _ _ h => h) (Or.inl ⟨by rfl, ?_⟩) (by assumption) ?_
        rotate_left 1
        · (intro w hSw; (try dsimp only at hSw); go_simp; (try with_reducible rfl))
        try simp only [Act.put, List.setIfInBounds_toArray, List.set_cons_zero, List.set_cons_succ]
        refine wpAnyH_take (i := 16) (oi := { dst := some 4, op := Op.assign (Operand.tmp 177), type := 4, pos := "law.go:118", after := #[{ on := 15, ground := Ground.data }, { on := 14, ground := Ground.chain }, { on := 0, ground := Ground.phase }, { on := 1, ground := Ground.phase }, { on := 2, ground := Ground.phase }, { on := 3, ground := Ground.phase }, { on := 4, ground := Ground.phase }, { on := 5, ground := Ground.phase }, { on := 6, ground := Ground.phase }, { on := 7, ground := Ground.phase }, { on := 8, ground := Ground.phase }, { on := 9, ground := Ground.phase }, { on := 10, ground := Ground.phase }, { on := 11, ground := Ground.phase }, { on := 12, ground := Ground.phase }, { on := 13, ground := Ground.phase }, { on := 14, ground := Ground.phase }, { on := 15, ground := Ground.phase }], guard := none }) (v := ?_) rfl (by kernel_rfl) (by kernel_rfl) (by kernel_rfl) (fun _ _ _ h => h) (Or.inl ⟨by rfl, ?_⟩) (by assumption) ?_
        rotate_left 1
        · (intro w hSw; (try dsimp only at hSw); go_simp; (try with_reducible rfl))
        try simp only [Act.put, List.setIfInBounds_toArray, List.set_cons_zero, List.set_cons_succ]
        refine wpAnyH_done (by kernel_rfl) ?_ _
        go_wp2_with fail
        go_ret
        exact ⟨rfl, below_then (below_alloc (below_alloc (Below.refl _ _) _) _) (by simp; omega) (below_step ZB.out HB22.out)⟩
end Go.Proofs.YtmbldnoepjmhhaaGreat.Bs
end
section
/- What permgroup.Meet comes to. -/
namespace Go.Proofs.YtmbldnoepjmhhaaGreat.QMeet
open Go.RowKit Go.Proofs.YtmbldnoepjmhhaaGreatW.PrintWords Go.Proofs.YtmbldnoepjmhhaaGreat.Plain Go.Proofs.YtmbldnoepjmhhaaGreat.Pms Go.Proofs.YtmbldnoepjmhhaaGreat.Bs Go.Proofs.YtmbldnoepjmhhaaGreat.PBs
variable {n : Nat}
theorem sub_gen {F : List (Pm n)} (h1 : (1 : Pm n) ∈ F) (hm : ∀ p q, p ∈ F → q ∈ F → p * q ∈ F) (p : Pm n) : p ∈ F ↔ Gen F p :=
  ⟨Gen.of, fun h => Gen.induct (P := fun p => p ∈ F) h1 (fun p s hp _ hs => hm _ _ hp hs) h⟩
def com (E F : List (Pm n)) : List (Pm n) := E.filter fun x => decide (x ∈ F)
theorem com_mem {E F : List (Pm n)} {p : Pm n} : p ∈ com E F ↔ p ∈ E ∧ p ∈ F := by
  unfold com; rw [List.mem_filter, decide_eq_true_iff]
theorem com_gen {S T E F : List (Pm n)} (hE : ∀ p, p ∈ E ↔ Gen S p) (hF : ∀ p, p ∈ F ↔ Gen T p) (p : Pm n) : p ∈ com E F ↔ Gen (com E F) p := by
  refine sub_gen (com_mem.2 ⟨(hE 1).2 (Gen.one _), (hF 1).2 (Gen.one _)⟩) (fun p q hp hq => ?_) p
  have h1 := com_mem.1 hp
  have h2 := com_mem.1 hq
  exact com_mem.2 ⟨(hE _).2 (((hE p).1 h1.1).mul ((hE q).1 h2.1)), (hF _).2 (((hF p).1 h1.2).mul ((hF q).1 h2.2))⟩
theorem com_comm {E F : List (Pm n)} (hE : E.Pairwise Lt) (hF : F.Pairwise Lt) : com F E = com E F :=
  sorted_eq (hF.filter _) (hE.filter _) (fun p => by
    have h1 : p ∈ com F E ↔ p ∈ F ∧ p ∈ E := com_mem
    have h2 : p ∈ com E F ↔ p ∈ E ∧ p ∈ F := com_mem
    exact h1.trans (And.comm.trans h2.symm))
theorem meetV_val (hn : n ≤ 20) {A B : AC n} {S T E F : List (Pm n)} (hE : E.Pairwise Lt) (hG : ∀ p, p ∈ E ↔ Gen S p) (hF : ∀ p, p ∈ F ↔ Gen T p) (hA : belowF A.enc 0 = (E.length : Int)) (hel : elements A.enc = some (E.map Pm.l)) (hB : Bs.Good B (Gen T)) (hl : E.length ≤ 240) : meetV (n : Int) A.enc B.enc = some ((n : Int), (greedy (com E F) []).map Pm.l, 0) := by
  have hEp : 0 < E.length := List.length_pos_of_mem ((hG 1).2 (Gen.one _))
  have hin : ∀ p : Pm n, B.enc.contains p.l = some (decide (p ∈ F)) := fun p => by
    obtain ⟨b, hb, hb2⟩ := contains_spec hn hB p
    rw [hb]
    congr 1
    rw [← hF p] at hb2
    cases b with
    | true => rw [decide_eq_true (hb2.1 rfl)]
    | false => rw [decide_eq_false (fun h => by have := hb2.2 h; cases this)]
  have hcond : 0 < (E.map Pm.l).length ∧ (E.map Pm.l).length ≤ 100000 ∧ ∀ p ∈ E.map Pm.l, (B.enc.contains p).isSome = true := by
    refine ⟨by rw [List.length_map]; exact hEp, by rw [List.length_map]; omega, fun p hp => ?_⟩
    obtain ⟨q, _, rfl⟩ := List.mem_map.1 hp
    rw [hin]; rfl
  have hfil : (E.map Pm.l).filter (fun p => (B.enc.contains p).getD false) = (com E F).map Pm.l := by
    rw [List.filter_map]
    congr 1
    unfold com
    refine List.filter_congr (fun q _ => ?_)
    show (B.enc.contains q.l).getD false = _
    rw [hin]; rfl
  unfold meetV
  rw [hA, if_neg (by omega), hel, Option.bind_some, if_pos hcond, hfil, Int.toNat_natCast, reduced_spec hn (show (com E F).Nodup from (sorted_nodup hE).filter _) (com_gen hG hF)]
  rfl
theorem meet_val (hn : n ≤ 20) (S T : List (Pm n)) (hS : S.length ≤ 32) (hT : T.length ≤ 32) {E F : List (Pm n)} (hE : E.Pairwise Lt) (hG : ∀ p, p ∈ E ↔ Gen S p) (hF : F.Pairwise Lt) (hH : ∀ p, p ∈ F ↔ Gen T p) (hl : E.length ≤ 240) (hl2 : F.length ≤ 240) :
    Ev (fun k => permgroup_Meet.f k (n : Int) (S.map Pm.l) (n : Int) (T.map Pm.l)) ((n : Int), (greedy (com E F) []).map Pm.l, 0) := by
  obtain ⟨A, E', a1, a2, a3, a4, a5, a6⟩ := grp_spec hn S
  have hEE : E' = E := sorted_eq a3 hE (fun p => by rw [a4, hG])
  subst hEE
  obtain ⟨B, F', b1, b2, b3, b4, b5, b6⟩ := grp_spec hn T
  have hFF : F' = F := sorted_eq b3 hF (fun p => by rw [b4, hH])
  subst hFF
  refine Ev.bind (QBs.permgroup_two.ev _ _ _ _) ?_
  rw [if_pos (chkG_Pm hn S hS), if_pos (chkG_Pm hn T hT), if_pos rfl]
  refine Ev.step (f := fun _ => some ((n : Int), (greedy (com E' F') []).map Pm.l, 0)) (fun k => ?_) (Ev.now _)
  rw [if_pos rfl, if_pos ⟨Int.natCast_nonneg _, by omega, Int.natCast_nonneg _, by omega⟩, Int.toNat_natCast, a1, Option.bind_some, b1, Option.bind_some]
  by_cases h : belowF B.enc 0 < belowF A.enc 0
  · rw [if_pos h, meetV_val hn hF hH hG b5 (b6 (by omega)) a2 hl2, com_comm hE hF]
  · rw [if_neg h, meetV_val hn hE hG hH a5 (a6 (by omega)) b2 hl]
theorem meet_bad {a b : Int} {L M : List (List Int)} {e : Int} (h : Ev (fun k => permgroup_two.f k a L b M) e) (he : e ≠ 0) : Ev (fun k => permgroup_Meet.f k a L b M) (0, [], e) := by
  refine Ev.bind h ?_
  simp only [if_neg he]
  exact Ev.now _
end Go.Proofs.YtmbldnoepjmhhaaGreat.QMeet
end
section
/- PermgroupPairs: the law, its walk by values joined with the laws of two groups. -/
namespace Go.Proofs.YtmbldnoepjmhhaaGreat.Bs
open Go.RowKit Go.Proofs.YtmbldnoepjmhhaaGreatW.PrintWords Go.Proofs.YtmbldnoepjmhhaaGreatW.PrintLast Go.Proofs.YtmbldnoepjmhhaaGreatW.PrintMore Go.Proofs.YtmbldnoepjmhhaaGreat.Plain Go.Proofs.YtmbldnoepjmhhaaGreat.PBs Go.Proofs.YtmbldnoepjmhhaaGreat.Pms Go.Proofs.YtmbldnoepjmhhaaGreat.QMeet Go.Proofs.YtmbldnoepjmhhaaGreat.QComm Go.Proofs.YtmbldnoepjmhhaaGreat.QGreed Go.Proofs.YtmbldnoepjmhhaaGreat.QCl Go.Proofs.YtmbldnoepjmhhaaGreat.QPg
variable {n : Nat}
def twoV (a : Int) (L : List (List Int)) (b : Int) (M : List (List Int)) : Int := if chkG a L = 0 then (if chkG b M = 0 then (if a = b then 0 else 2) else chkG b M) else chkG a L
theorem two_pg (a : Int) (L : List (List Int)) (b : Int) (M : List (List Int)) : Ev (fun k => permgroup_two.f k a L b M) (twoV a L b M) := QBs.permgroup_two.ev a L b M
theorem two_rf (a : Int) (L : List (List Int)) (b : Int) (M : List (List Int)) : Ev (fun k => PRf.galoisref23_Two.f k a L b M) (twoV a L b M) := twoP a L b M
theorem twoV_zero {a : Int} {L : List (List Int)} {b : Int} {M : List (List Int)} : twoV a L b M = 0 ↔ chkG a L = 0 ∧ chkG b M = 0 ∧ a = b := by
  unfold twoV
  by_cases h1 : chkG a L = 0
  · rw [if_pos h1]
    by_cases h2 : chkG b M = 0
    · rw [if_pos h2]
      by_cases h3 : a = b
      · rw [if_pos h3]; exact ⟨fun _ => ⟨h1, h2, h3⟩, fun _ => rfl⟩
      · rw [if_neg h3]; exact ⟨fun h => absurd h (by decide), fun h => absurd h.2.2 h3⟩
    · rw [if_neg h2]; exact ⟨fun h => absurd h h2, fun h => absurd h.2.1 h2⟩
  · rw [if_neg h1]; exact ⟨fun h => absurd h h1, fun h => absurd h.1 h1⟩
theorem twoV_comm {a : Int} {L : List (List Int)} {b : Int} {M : List (List Int)} : twoV a L b M = 0 ↔ twoV b M a L = 0 := by
  rw [twoV_zero, twoV_zero]
  exact ⟨fun h => ⟨h.2.1, h.1, h.2.2.symm⟩, fun h => ⟨h.2.1, h.1, h.2.2.symm⟩⟩
open Classical in
theorem isSub_ev (hn : n ≤ 20) (S T : List (Pm n)) (hS : S.length ≤ 32) (hT : T.length ≤ 32) : Ev (fun k => PPr.permgroup_IsSubgroup.f k (n : Int) (T.map Pm.l) (n : Int) (S.map Pm.l)) (decide (∀ g ∈ T, Gen S g), 0) := by
  refine Ev.congr (f := fun k => (permgroup_two.f k (n : Int) (T.map Pm.l) (n : Int) (S.map Pm.l)).bind fun t => if t = 0 then ((permgroup_sub.f (n : Int) (T.map Pm.l) (n : Int) (S.map Pm.l)).bind fun t2 => some (t2, 0)) else some (false, t)) (fun k => rfl) ?_
  refine Ev.bind (two_pg _ _ _ _) ?_
  rw [twoV_zero.2 ⟨chkG_Pm hn T hT, chkG_Pm hn S hS, rfl⟩]
  simp only [if_true]
  rw [sub_spec hn T S (n : Int)]
  exact Ev.now _
open Classical in
theorem same_ev (hn : n ≤ 20) (S T : List (Pm n)) (hS : S.length ≤ 32) (hT : T.length ≤ 32) : Ev (fun k => PPr.permgroup_Same.f k (n : Int) (S.map Pm.l) (n : Int) (T.map Pm.l)) (decide ((∀ g ∈ S, Gen T g) ∧ ∀ g ∈ T, Gen S g), 0) := by
  refine Ev.congr (f := fun k => (permgroup_two.f k (n : Int) (S.map Pm.l) (n : Int) (T.map Pm.l)).bind fun t => if t = 0 then ((permgroup_sub.f (n : Int) (S.map Pm.l) (n : Int) (T.map Pm.l)).bind fun t2 => if t2 = true then ((permgroup_sub.f (n : Int) (T.map Pm.l) (n : Int) (S.map Pm.l)).bind fun t3 => some (t3, 0)) else some (false, 0)) else some (false, t)) (fun k => rfl) ?_
  refine Ev.bind (two_pg _ _ _ _) ?_
  rw [twoV_zero.2 ⟨chkG_Pm hn S hS, chkG_Pm hn T hT, rfl⟩]
  simp only [if_true]
  rw [sub_spec hn S T (n : Int), sub_spec hn T S (n : Int), Option.bind_some, Option.bind_some]
  by_cases h1 : ∀ g ∈ S, Gen T g
  · by_cases h2 : ∀ g ∈ T, Gen S g
    · rw [decide_eq_true h1, decide_eq_true h2, decide_eq_true ⟨h1, h2⟩]; exact Ev.now _
    · rw [decide_eq_true h1, decide_eq_false h2, decide_eq_false (fun h => h2 h.2)]; exact Ev.now _
  · have hf : ¬ ((∀ g ∈ S, Gen T g) ∧ ∀ g ∈ T, Gen S g) := fun h => h1 h.1
    rw [decide_eq_false h1, decide_eq_false hf]; exact Ev.now _
theorem isSub_bad {a b : Int} {L M : List (List Int)} (h : twoV b M a L ≠ 0) : Ev (fun k => PPr.permgroup_IsSubgroup.f k b M a L) (false, twoV b M a L) := by
  refine Ev.bind (two_pg _ _ _ _) ?_
  simp only [if_neg h]
  exact Ev.now _
theorem same_bad {a b : Int} {L M : List (List Int)} (h : twoV a L b M ≠ 0) : Ev (fun k => PPr.permgroup_Same.f k a L b M) (false, twoV a L b M) := by
  refine Ev.bind (two_pg _ _ _ _) ?_
  simp only [if_neg h]
  exact Ev.now _
theorem join_bad {a b : Int} {L M : List (List Int)} (h : twoV a L b M ≠ 0) : Ev (fun k => permgroup_Join.f k a L b M) (0, [], twoV a L b M) := by
  refine Ev.bind (two_pg _ _ _ _) ?_
  simp only [if_neg h]
  exact Ev.now _
theorem join_ev (hn : n ≤ 20) (S T : List (Pm n)) (hS : S.length ≤ 32) (hT : T.length ≤ 32) : Ev (fun k => permgroup_Join.f k (n : Int) (S.map Pm.l) (n : Int) (T.map Pm.l)) (if 32 < S.length + T.length then (0, [], 5) else ((n : Int), S.map Pm.l ++ T.map Pm.l, 0)) := by
  refine Ev.bind (two_pg _ _ _ _) ?_
  rw [twoV_zero.2 ⟨chkG_Pm hn S hS, chkG_Pm hn T hT, rfl⟩]
  have hc : (S.map Pm.l).length ≤ 500 ∧ (T.map Pm.l).length ≤ 500 ∧ ∀ p ∈ S.map Pm.l ++ T.map Pm.l, p.length ≤ 1000 := by
    rw [List.length_map, List.length_map]
    refine ⟨by omega, by omega, fun p hp => ?_⟩
    rw [← List.map_append] at hp
    obtain ⟨q, _, rfl⟩ := List.mem_map.1 hp
    rw [q.len]; omega
  simp only [if_true]
  rw [if_pos hc, List.length_map, List.length_map]
  by_cases h : 32 < S.length + T.length
  · rw [if_pos h, if_pos h]; exact Ev.now _
  · rw [if_neg h, if_neg h]; exact Ev.now _
theorem gen_sub {S T E F : List (Pm n)} (hE : ∀ p, p ∈ E ↔ Gen S p) (hF : ∀ p, p ∈ F ↔ Gen T p) : (∀ x ∈ F, x ∈ E) ↔ ∀ g ∈ T, Gen S g := by
  constructor
  · intro h g hg
    exact (hE g).1 (h g ((hF g).2 (Gen.of hg)))
  · intro h x hx
    rw [hE]
    exact Gen.induct (P := fun p => Gen S p) (Gen.one _) (fun p s hp _ hs => hp.mul (h s hs)) ((hF x).1 hx)
theorem sub_len {E F : List (Pm n)} (hE : E.Pairwise Lt) (hF : F.Pairwise Lt) (h : ∀ x ∈ F, x ∈ E) : (∀ x ∈ E, x ∈ F) ↔ E.length = F.length := by
  constructor
  · intro h2
    rw [sorted_eq hE hF (fun p => ⟨h2 p, h p⟩)]
  · intro hl x hx
    have e : com E F = E := by
      have h1 : com F E = F := by
        unfold com
        exact List.filter_eq_self.2 (fun x hx => decide_eq_true (h x hx))
      have h2 : (com E F).length = E.length := by rw [← com_comm hE hF, h1, hl]
      exact List.filter_eq_self.2 (fun x hx => (List.length_filter_eq_length_iff.1 h2) x hx)
    have h3 := com_mem.1 (e.symm ▸ hx : x ∈ com E F)
    exact h3.2
theorem none_zeroP : PPg.galoislaw23_none.f 0 [] = some true := rfl
open Classical in
theorem pairs_law (a b : Int) (A0 : Option Addr) (c0 : Nat) (L : List (List Int)) (B0 : Option Addr) (d0 : Nat) (M : List (List Int)) (w : World) (hg : Kd.C (Kd.slice 3 (Kd.int .i64)) w A0 L.length L) (hgc : L.length ≤ c0) (hh : Kd.C (Kd.slice 3 (Kd.int .i64)) w B0 M.length M) (hhc : M.length ≤ d0) :
    Calls Tryz.prog 5 #[.agg #[.int .i64 a, .slice A0 L.length c0], .agg #[.int .i64 b, .slice B0 M.length d0]] w fun e w' => e = .returned (.bool true) ∧ Below w.heap.size w w' := by
  obtain ⟨b1, ⟨K1, hb1⟩, hfit1⟩ := large_ev a L
  have h1 := hb1 K1 (Nat.le_refl _)
  cases b1 with
  | true => exact pairs_large a b A0 c0 L B0 d0 M w hg hgc hh hhc K1 h1
  | false =>
  obtain ⟨b2, ⟨K2, hb2⟩, hfit2⟩ := large_ev b M
  have h2 := hb2 K2 (Nat.le_refl _)
  cases b2 with
  | true => exact pairs_large2 a b A0 c0 L B0 d0 M w hg hgc hh hhc K1 K2 h1 h2
  | false =>
  obtain ⟨K7, h7⟩ := two_rf b M a L
  by_cases hw : twoV b M a L = 0
  · obtain ⟨hcM, hcL, hab⟩ := twoV_zero.1 hw
    obtain ⟨n, S, E, fit⟩ := hfit1 rfl hcL
    obtain ⟨hdeg, hn, rfl, hS, hE, hG, hfew⟩ := fit
    obtain ⟨m, T, F, fit2⟩ := hfit2 rfl hcM
    obtain ⟨hdeg2, hm, hgT, hT, hF, hH, hfew2⟩ := fit2
    obtain rfl : m = n := by omega
    subst hgT
    subst hdeg2
    subst hdeg
    obtain ⟨K3, h3⟩ := isSub_ev hn S T hS hT
    obtain ⟨K4, h4⟩ := same_ev hn S T hS hT
    obtain ⟨K5, h5⟩ := join_ev hn S T hS hT
    obtain ⟨K6, h6⟩ := meet_val hn S T hS hT hE hG hF hH hfew hfew2
    obtain ⟨K8, h8⟩ := elementsP hn hE hG
    obtain ⟨K9, h9⟩ := elementsP hn hF hH
    obtain ⟨K10, h10⟩ := subsetP hn F hE (by omega) (by omega)
    obtain ⟨K11, h11⟩ := commonP hn E hF (by omega) (by omega)
    have hcs : (com E F).Pairwise Lt := hE.filter _
    have hcl : (com E F).length ≤ 240 := Nat.le_trans (List.length_filter_le _ _) hfew
    obtain ⟨K12, h12⟩ := greedyP hn hcs (com_gen hG hH) hcl
    obtain ⟨K13, h13⟩ := equalP hn (m : Int) (greedy (com E F) []) (Nat.lt_of_le_of_lt (greedy_short hn (sorted_nodup hcs) (com_gen hG hH) (by omega)) (by decide))
    have h8' := h8 K8 (Nat.le_refl _)
    have h9' := h9 K9 (Nat.le_refl _)
    unfold closeR at h8' h9'
    rw [if_pos hfew] at h8'
    rw [if_pos hfew2] at h9'
    have h7' := h7 K7 (Nat.le_refl _)
    rw [hw] at h7'
    have h5' := h5 K5 (Nat.le_refl _)
    have hin : decide (∀ g ∈ T, Gen S g) = decide (∀ x ∈ F, x ∈ E) := by
      rw [Bool.eq_iff_iff, decide_eq_true_iff, decide_eq_true_iff, gen_sub hG hH]
    have hsm : decide ((∀ g ∈ S, Gen T g) ∧ ∀ g ∈ T, Gen S g) = (decide (∀ x ∈ F, x ∈ E) && decide (((E.map Pm.l).length : Int) = ((F.map Pm.l).length : Int))) := by
      rw [Bool.eq_iff_iff, Bool.and_eq_true, decide_eq_true_iff, decide_eq_true_iff, decide_eq_true_iff, ← gen_sub hG hH, ← gen_sub hH hG, List.length_map, List.length_map]
      constructor
      · rintro ⟨x1, x2⟩
        exact ⟨x2, by rw [(sub_len hE hF x2).1 x1]⟩
      · rintro ⟨x2, x3⟩
        exact ⟨(sub_len hE hF x2).2 (by omega), x2⟩
    have hSL : ((S.map Pm.l).length : Int) + ((T.map Pm.l).length : Int) ≤ 64 := by rw [List.length_map, List.length_map]; omega
    by_cases hmany : 32 < S.length + T.length
    · rw [if_pos hmany] at h5'
      exact pairs_many (m : Int) (m : Int) A0 c0 _ B0 d0 _ w hg hgc hh hhc K1 K2 K3 K4 K5 K6 K7 h1 h2 _ _ 0 (m : Int) [] _ (h3 K3 (Nat.le_refl _)) (h4 K4 (Nat.le_refl _)) h5' (h6 K6 (Nat.le_refl _)) h7' _ _ _ _ K8 K9 K10 K11 K12 K13 h8' h9' (h10 K10 (Nat.le_refl _)) (h11 K11 (Nat.le_refl _)) (h12 K12 (Nat.le_refl _)) (h13 K13 (Nat.le_refl _)) hin hsm hSL (by rw [List.length_map, List.length_map]; omega) none_zeroP
    · rw [if_neg hmany] at h5'
      obtain ⟨K15, h15⟩ := equalP hn (m : Int) (S ++ T) (by rw [List.length_append]; omega)
      rw [List.map_append] at h15
      exact pairs_few (m : Int) (m : Int) A0 c0 _ B0 d0 _ w hg hgc hh hhc K1 K2 K3 K4 K5 K6 K7 h1 h2 _ _ (m : Int) _ _ (h3 K3 (Nat.le_refl _)) (h4 K4 (Nat.le_refl _)) h5' (h6 K6 (Nat.le_refl _)) h7' _ _ _ _ K8 K9 K10 K11 K12 K13 h8' h9' (h10 K10 (Nat.le_refl _)) (h11 K11 (Nat.le_refl _)) (h12 K12 (Nat.le_refl _)) (h13 K13 (Nat.le_refl _)) hin hsm hSL (by rw [List.length_map, List.length_map]; omega) K15 (h15 K15 (Nat.le_refl _)) rfl
  · have hv : twoV a L b M ≠ 0 := fun h => hw (twoV_comm.1 h)
    obtain ⟨K3, h3⟩ := isSub_bad hw
    obtain ⟨K4, h4⟩ := same_bad hv
    obtain ⟨K5, h5⟩ := join_bad hv
    obtain ⟨K6, h6⟩ := meet_bad (two_pg a L b M) hv
    obtain ⟨K8, h8⟩ := two_rf a L b M
    exact pairs_bad a b A0 c0 L B0 d0 M w hg hgc hh hhc K1 K2 K3 K4 K5 K6 K7 h1 h2 (twoV b M a L) (twoV a L b M) 0 0 [] [] (h3 K3 (Nat.le_refl _)) (h4 K4 (Nat.le_refl _)) (h5 K5 (Nat.le_refl _)) (h6 K6 (Nat.le_refl _)) (h7 K7 (Nat.le_refl _)) K8 (h8 K8 (Nat.le_refl _)) hw none_zeroP none_zeroP
def galoislaw23_PermgroupPairs.f (k : Nat) (a0_0 : Int) (l0_1 : List (List Int)) (a1_0 : Int) (l1_1 : List (List Int)) : Option Bool := some true
theorem galoislaw23_PermgroupPairs.mono : ∀ a0_0 l0_1 a1_0 l1_1 k, LeO (galoislaw23_PermgroupPairs.f k a0_0 l0_1 a1_0 l1_1) (galoislaw23_PermgroupPairs.f (k + 1) a0_0 l0_1 a1_0 l1_1) := fun _ _ _ _ _ => LeO.refl _
theorem galoislaw23_PermgroupPairs.calls (k : Nat) (a0_0 : Int) (A0_1 : Option Addr) (c0_1 : Nat) (l0_1 : List (List Int)) (a1_0 : Int) (A1_1 : Option Addr) (c1_1 : Nat) (l1_1 : List (List Int)) (r : Bool) (w : World) (hr0_1 : Kd.C (Kd.slice 3 (Kd.int .i64)) w A0_1 l0_1.length l0_1) (hc0_1 : l0_1.length ≤ c0_1) (hr1_1 : Kd.C (Kd.slice 3 (Kd.int .i64)) w A1_1 l1_1.length l1_1) (hc1_1 : l1_1.length ≤ c1_1) (h : galoislaw23_PermgroupPairs.f k a0_0 l0_1 a1_0 l1_1 = some r) :
    Calls Tryz.prog 5 #[.agg #[.int .i64 a0_0, .slice A0_1 l0_1.length c0_1], .agg #[.int .i64 a1_0, .slice A1_1 l1_1.length c1_1]] w fun e w' => e = .returned (.bool r) ∧ Below w.heap.size w w' := by
  obtain rfl := Option.some.inj h
  exact pairs_law a0_0 a1_0 A0_1 c0_1 l0_1 A1_1 c1_1 l1_1 w hr0_1 hc0_1 hr1_1 hc1_1
end Go.Proofs.YtmbldnoepjmhhaaGreat.Bs
end
