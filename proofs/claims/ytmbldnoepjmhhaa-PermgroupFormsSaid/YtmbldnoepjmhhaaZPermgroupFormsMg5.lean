/- Texts of this claim put together (wip/tools/merge.py). -/
import Derived.Test.YtmbldnoepjmhhaaZPermgroupFormsPPgx0
import Derived.Test.YtmbldnoepjmhhaaZPermgroupFormsPPgx1
import Derived.Test.YtmbldnoepjmhhaaZPermgroupFormsMg3
import Derived.Test.YtmbldnoepjmhhaaZPermgroupFormsMg4
import Derived.Test.YtmbldnoepjmhhaaZPermgroupFormsMg1
import Derived.Test.YtmbldnoepjmhhaaZPermgroupFormsMg0
import Derived.Test.YtmbldnoepjmhhaaZPermgroupFormsPGrx0
import Derived.Test.YtmbldnoepjmhhaaZPermgroupFormsPGrx1
import Derived.Test.YtmbldnoepjmhhaaZPermgroupFormsPScx0
import Derived.Test.YtmbldnoepjmhhaaZPermgroupFormsPScx1
import Derived.Test.YtmbldnoepjmhhaaZPermgroupFormsPScx2
import Derived.Test.YtmbldnoepjmhhaaZPermgroupFormsRfChain
import Derived.Deep.RegionHeld3
set_option linter.unusedVariables false
set_option linter.unusedSimpArgs false
section
/- The walk of galoislaw23.awake: the chapter's example. -/
namespace Go.Proofs.Ytmbldnoepjmhhaa.Bs
open Go.RowKit Go.Proofs.YtmbldnoepjmhhaaW.PrintWords Go.Proofs.YtmbldnoepjmhhaaW.PrintLast Go.Proofs.YtmbldnoepjmhhaaW.PrintMore Go.Proofs.Ytmbldnoepjmhhaa.Plain Go.Proofs.Ytmbldnoepjmhhaa.PBs Go.Proofs.Ytmbldnoepjmhhaa.PAll
theorem lit_ints (W : World) (base : Nat) (xs : List Int) (hb : base ≤ W.heap.size) (hl : xs.length ≤ 1000) : Kd.R (Kd.int .i64) 3 (W.alloc (.cells (xs.map (Value.int .i64)).toArray 3)) base (fun b => b = W.heap.size) (.slice (some ⟨W.heap.size, 0, none⟩) xs.length xs.length) xs := by
  refine ⟨fun k hk => ?_, ?_⟩
  · have : W.heap.size = k := by simpa [Value.ownBlock] using hk
    exact this.symm
  · exact OwnRow.lit (ps := xs) (inner := xs.map (Value.int .i64)) W base ⟨by rw [List.length_map]; exact (Nat.mul_one _).symm, fun j p hj => by
      have hjl := (List.getElem?_eq_some_iff.1 hj).1
      show ((xs.map (Value.int .i64)).drop (j * 1)).take 1 = [Value.int .i64 p]
      rw [Nat.mul_one, List.drop_eq_getElem_cons (by simpa using hjl)]
      simp [(List.getElem?_eq_some_iff.1 hj).2]⟩ hb (by show xs.length ≤ 9223372036854775807; omega)
theorem lit_kvs (W : World) (base : Nat) (svs : List Sv) (hb : base ≤ W.heap.size) (hl : svs.length ≤ 1000) : Kd.R kv 49 (W.alloc (.cells (svs.map svE).toArray 49)) base (fun b => b = W.heap.size) (.slice (some ⟨W.heap.size, 0, none⟩) svs.length svs.length) svs := by
  refine ⟨fun k hk => ?_, ?_⟩
  · have : W.heap.size = k := by simpa [Value.ownBlock] using hk
    exact this.symm
  · exact OwnRow.lit (ps := svs) (inner := svs.map svE) W base ⟨by rw [List.length_map]; exact (Nat.mul_one _).symm, fun j p hj => by
      have hjl := (List.getElem?_eq_some_iff.1 hj).1
      show ((svs.map svE).drop (j * 1)).take 1 = [svE p]
      rw [Nat.mul_one, List.drop_eq_getElem_cons (by simpa using hjl)]
      simp [(List.getElem?_eq_some_iff.1 hj).2]⟩ hb (by show svs.length ≤ 9223372036854775807; omega)
set_option maxRecDepth 100000 in
theorem aw_order : permgroup_Order.f 60 4 [[1, 2, 3, 0], [2, 1, 0, 3]] = some (8, 0) := by decide +kernel
set_option maxRecDepth 100000 in
theorem aw_reduced : Go.Proofs.Ytmbldnoepjmhhaa.PPg.permgroup_Reduced.f 60 4 [[1, 2, 3, 0], [2, 1, 0, 3]] = some (4, [[0, 3, 2, 1], [1, 0, 3, 2]], 0) := by decide +kernel
set_option maxRecDepth 100000 in
theorem aw_index : permgroup_Index.f 60 4 [[1, 2, 3, 0], [2, 1, 0, 3]] [1, 2, 3, 0] = some (3, 0) := by decide +kernel
def aw_l0 : S71 := ⟨0, [0, 1, 2, 3], [[0, 1, 2, 3], [1, 0, 3, 2], [2, 1, 0, 3], [3, 0, 1, 2]]⟩
def aw_l1 : S71 := ⟨1, [1, 3], [[0, 1, 2, 3], [0, 3, 2, 1]]⟩
set_option maxRecDepth 100000 in
theorem aw_chain : permgroup_Chain.f 60 4 [[1, 2, 3, 0], [2, 1, 0, 3]] = some ([aw_l0, aw_l1], 0) := by kernel_rfl
theorem aw_equal : Go.Proofs.Ytmbldnoepjmhhaa.PRf.galoisref23_Equal.f 60 4 [[0, 3, 2, 1], [1, 0, 3, 2]] 4 [[0, 3, 2, 1], [1, 0, 3, 2]] = some true := by decide +kernel
theorem aw_same : Go.Proofs.Ytmbldnoepjmhhaa.PRf.galoisref22_Same.f 60 [1, 3] [1, 3] = some true := by decide +kernel
theorem aw_cells {e base g n c : Nat} {ok : Nat → Prop} {w : World} (h : Kd.R k71 e w base ok (.slice (some ⟨g, 0, none⟩) n c) [aw_l0, aw_l1]) : w.cell? ⟨g, 3, none⟩ = some (.int .i64 1) ∧ ∃ A co, w.cell? ⟨g, 4, none⟩ = some (.slice A 2 co) ∧ 2 ≤ co ∧ Kd.C (Kd.int .i64) w A 2 [1, 3] := by
  obtain ⟨_, _, hC⟩ := Kd.R_reads' h
  obtain ⟨_, _, h3⟩ := hC
  obtain ⟨ad, ea, hc⟩ := h3 (by decide)
  obtain rfl := Option.some.inj ea
  obtain ⟨cs, hcl, hK, hcc⟩ := hc 1 aw_l1 rfl
  obtain ⟨A1, c1, A2, c2, rfl, hl1, hC1, _, _⟩ := k71_open hK
  exact ⟨hcc 0 _ rfl, A1, c1, hcc 1 _ rfl, hl1, hC1⟩
theorem lit_two (W : World) (xs ys : List Int) (hx : xs.length ≤ 1000) (hy : ys.length ≤ 1000) (b2 b3 : Nat) (h2 : b2 = W.heap.size + 1) (h3 : b3 = W.heap.size + 1 + 1) :
    Kd.C (Kd.slice 3 (Kd.int .i64)) (((W.alloc (.cells (xs.map (Value.int .i64)).toArray 3)).alloc (.cells (ys.map (Value.int .i64)).toArray 3)).alloc (.cells #[.slice (some ⟨W.heap.size, 0, none⟩) xs.length xs.length, .slice (some ⟨b2, 0, none⟩) ys.length ys.length] 49)) (some ⟨b3, 0, none⟩) 2 [xs, ys] := by
  have s1 : (W.alloc (.cells (xs.map (Value.int .i64)).toArray 3)).heap.size = b2 := by rw [h2]; simp
  have s2 : ((W.alloc (.cells (xs.map (Value.int .i64)).toArray 3)).alloc (.cells (ys.map (Value.int .i64)).toArray 3)).heap.size = b3 := by rw [h3]; simp
  have r1 := lit_ints W 0 xs (Nat.zero_le _) hx
  have r2 := lit_ints (W.alloc (.cells (xs.map (Value.int .i64)).toArray 3)) 0 ys (Nat.zero_le _) hy
  rw [s1] at r2
  have r3 := lit_kvs ((W.alloc (.cells (xs.map (Value.int .i64)).toArray 3)).alloc (.cells (ys.map (Value.int .i64)).toArray 3)) 0 [(some ⟨W.heap.size, 0, none⟩, xs.length, xs.length), (some ⟨b2, 0, none⟩, ys.length, ys.length)] (Nat.zero_le _) (by simp)
  rw [s2] at r3
  refine C_of_kv r3 rfl (fun i sv p e1 e2 => ?_)
  match i, e1, e2 with
  | 0, e1, e2 =>
    obtain rfl := Option.some.inj e1
    obtain rfl := Option.some.inj e2
    exact PermAt.of_R (Kd.R_below (Kd.R_below r1 (below_alloc (Below.refl _ _) _)) (below_alloc (Below.refl _ _) _))
  | 1, e1, e2 =>
    obtain rfl := Option.some.inj e1
    obtain rfl := Option.some.inj e2
    exact PermAt.of_R (Kd.R_below r2 (below_alloc (Below.refl _ _) _))
def galoislaw23_awake.f : Option Bool := some true
set_option maxHeartbeats 16000000 in
set_option maxRecDepth 100000 in
theorem galoislaw23_awake.calls (r : Bool) (w : World) (h : galoislaw23_awake.f = some r) : Calls Try.prog 26 #[] w fun e w' => e = .returned (.bool r) ∧ Below w.heap.size w w' := by
  obtain rfl : true = r := Option.some.inj h
  clear h
  have hu := Try.underlying37
  go_enter Try.func26, Try.ntmps26
  have HB := Aside0.mk (Below.refl w.heap.size w)
  go_wp2_with (first
    | (go_at_call 85; (refine (Go.Proofs.Ytmbldnoepjmhhaa.PPg.galoislaw23_example.calls 4 [[1, 2, 3, 0], [2, 1, 0, 3]] _ rfl).mono ?_); rintro e1 w1 ⟨v1, rfl, hr1, hb⟩; obtain ⟨A1, c1, e1, hl1, hC1⟩ := Kd.N_reads hr1; subst e1; have HC1 := Aside0.mk hC1; have HL1 := Aside0.mk hl1; have HB := Aside0.mk (below_step (w := w) (by first | exact HB.out | exact below_alloc HB.out _) hb); try (have HR := Aside0.mk (below_step (w := wR.alloc (.cells #[.int .i64 4, .slice A3 2 c3] 37)) (by first | exact HR.out | exact below_alloc HR.out _ | exact Below.refl _ _) hb)); clear hr1 hb hl1 hC1)
    | (go_at_call 29; (refine (permgroup_Order.calls 60 4 A1 c1 [[1, 2, 3, 0], [2, 1, 0, 3]] 8 0 _ HC1.out HL1.out aw_order).mono ?_); rintro e2 w2 ⟨rfl, hb⟩; have HB := Aside0.mk (below_step (w := w) HB.out hb); clear hb)
    | (go_at_call 31; (refine (Go.Proofs.Ytmbldnoepjmhhaa.PPg.permgroup_Reduced.calls 60 4 A1 c1 [[1, 2, 3, 0], [2, 1, 0, 3]] 4 [[0, 3, 2, 1], [1, 0, 3, 2]] 0 _ HC1.out HL1.out aw_reduced).mono ?_); rintro e3 wR ⟨v3, rfl, hr3, hb⟩; obtain ⟨A3, c3, e3, hl3, hC3⟩ := Kd.R_reads (Kd.S_R hr3); subst e3; have HC3 := Aside0.mk hC3; have HL3 := Aside0.mk hl3; have HB := Aside0.mk (below_step (w := w) HB.out hb); have HR := Aside0.mk True.intro; clear hr3 hb hl3 hC3)
    | (go_at_call 58; (refine (permgroup_Index.calls 60 4 A1 c1 [[1, 2, 3, 0], [2, 1, 0, 3]] (some ⟨w1.heap.size, 0, none⟩) 4 [1, 2, 3, 0] 3 0 _ (Kd.C_below HC1.out (below_alloc (Below.refl _ _) _)) HL1.out (Kd.R_reads' (lit_ints w1 0 [1, 2, 3, 0] (Nat.zero_le _) (by decide))).2.2 (by decide) aw_index).mono ?_); rintro e4 w4 ⟨rfl, hb⟩; have HB := Aside0.mk (below_step (w := w) (below_alloc HB.out _) hb); have HR := Aside0.mk (below_step (w := wR.alloc (.cells #[.int .i64 4, .slice A3 2 c3] 37)) (below_alloc HR.out _) hb); clear hb)
    | (go_at_call 32; (refine (permgroup_Chain.calls 60 4 A1 c1 [[1, 2, 3, 0], [2, 1, 0, 3]] [aw_l0, aw_l1] 0 _ HC1.out HL1.out aw_chain).mono ?_); rintro e5 wC ⟨v5, rfl, hr5, hb⟩; obtain ⟨gc, cc, e5, _, _, _, _⟩ := Kd.R_form hr5 (by decide); subst e5; obtain ⟨hk3, Ao, co, hk4, hlo, hCo⟩ := aw_cells hr5; have HK4 := Aside0.mk hk4; have HLo := Aside0.mk hlo; have HCo := Aside0.mk hCo; clear hk4 hlo hCo; have HB := Aside0.mk (below_step (w := w) HB.out hb); have HR := Aside0.mk (below_step (w := wR.alloc (.cells #[.int .i64 4, .slice A3 2 c3] 37)) HR.out hb); have hg0 := cell_move (w' := wC) (show (wR.alloc (.cells #[.int .i64 4, .slice A3 2 c3] 37)).cell? ⟨wR.heap.size, 0, none⟩ = some (.int .i64 4) from by rw [World.cell?_alloc_at _ _ _ _ rfl]; rfl) (fun hlt => HR.out.block _ hlt); have hg1 := cell_move (w' := wC) (show (wR.alloc (.cells #[.int .i64 4, .slice A3 2 c3] 37)).cell? ⟨wR.heap.size, 1, none⟩ = some (.slice A3 2 c3) from by rw [World.cell?_alloc_at _ _ _ _ rfl]; rfl) (fun hlt => HR.out.block _ hlt); clear hr5 hb)
    | (go_at_call 37; (refine (Go.Proofs.Ytmbldnoepjmhhaa.PRf.galoisref23_Equal.calls 60 4 A3 c3 [[0, 3, 2, 1], [1, 0, 3, 2]] 4 (some ⟨wC.heap.size + 1 + 1, 0, none⟩) 2 [[0, 3, 2, 1], [1, 0, 3, 2]] true _ (Kd.C_below HC3.out (below_step (w := wR) (below_alloc (Below.refl _ _) _) (by repeat (first | exact HR.out | apply below_alloc)))) HL3.out (lit_two wC [0, 3, 2, 1] [1, 0, 3, 2] (by decide) (by decide) _ _ rfl rfl) (by decide) aw_equal).mono ?_); rintro e6 w6 ⟨rfl, hb⟩; have HB := Aside0.mk (below_step (w := w) (by repeat (first | exact HB.out | apply below_alloc)) hb); have HB6 := Aside0.mk (below_step (w := wC) (by repeat (first | exact Below.refl _ _ | apply below_alloc)) hb); have hk6 := cell_move (w' := w6) HK4.out (fun hlt => HB6.out.block _ hlt); clear hb)
    | (go_at_call 14; (refine (Go.Proofs.Ytmbldnoepjmhhaa.PRf.galoisref22_Same.calls 60 Ao co [1, 3] (some ⟨w6.heap.size, 0, none⟩) 2 [1, 3] true _ (Kd.C_below HCo.out (below_alloc HB6.out _)) HLo.out (Kd.R_reads' (lit_ints w6 0 [1, 3] (Nat.zero_le _) (by decide))).2.2 (by decide) aw_same).mono ?_); rintro e7 w7 ⟨rfl, hd⟩; have hq := hd.out; obtain ⟨q, rfl⟩ := hq; have HB := Aside0.mk (pw_below_drewN (below_alloc HB.out (.cells #[.int .i64 1, .int .i64 3] 3)) q); clear hd))
  go_ret
  exact ⟨rfl, HB.out⟩
end Go.Proofs.Ytmbldnoepjmhhaa.Bs
end
section
/- The walk of PermgroupForms, by values. -/
namespace Go.Proofs.Ytmbldnoepjmhhaa.Bs
open Go.RowKit Go.Proofs.YtmbldnoepjmhhaaW.PrintWords Go.Proofs.YtmbldnoepjmhhaaW.PrintLast Go.Proofs.YtmbldnoepjmhhaaW.PrintMore Go.Proofs.Ytmbldnoepjmhhaa.Plain Go.Proofs.Ytmbldnoepjmhhaa.PBs Go.Proofs.Ytmbldnoepjmhhaa.PAll
theorem C_V {α : Type} {d : Kd α} (hd : Kd.Heap d) {e base c : Nat} {w : World} {A : Option Addr} {xs : List α} (h : Kd.C d w A xs.length xs) (hc : xs.length ≤ c) : Kd.V d e w base (fun k => k < w.heap.size) (.slice A xs.length c) xs := Kd.V_mk hc (Kd.C_F hd h)
theorem heapP : Kd.Heap (Kd.slice 3 (Kd.int .i64)) := Kd.heap_slice 3 (Kd.heap_int .i64)
theorem greedy_C (k : Nat) (a : Int) (A0 : Option Addr) (c0 : Nat) (l0 : List (List Int)) (r1 : Int) (r : List (List Int)) (w : World) (h0 : Kd.C (Kd.slice 3 (Kd.int .i64)) w A0 l0.length l0) (hc0 : l0.length ≤ c0) (h : PGr.galoisref23_Greedy.f k a l0 = some (r1, r)) :
    Calls Try.prog 38 #[.int .i64 a, .slice A0 l0.length c0] w fun e w' => ∃ A c, e = .returned (.agg #[.int .i64 r1, .slice A r.length c]) ∧ r.length ≤ c ∧ Kd.C (Kd.slice 3 (Kd.int .i64)) w' A r.length r ∧ Below w.heap.size w w' := by
  refine (PGr.galoisref23_Greedy.calls k a _ A0 c0 l0 r1 r w (C_V heapP h0 hc0) h).mono ?_
  rintro e w' ⟨v, rfl, hn, hb⟩
  have hv := Kd.N_V (base' := 0) hn
  obtain ⟨A, c, rfl⟩ := Kd.V_slice hv
  exact ⟨A, c, rfl, (Kd.V_reads' hv).2.1, (Kd.V_reads' hv).2.2, hb⟩
set_option maxHeartbeats 16000000 in
set_option maxRecDepth 100000 in
theorem forms_large (a : Int) (A0 : Option Addr) (c0 : Nat) (L : List (List Int)) (w : World) (hg : Kd.C (Kd.slice 3 (Kd.int .i64)) w A0 L.length L) (hgc : L.length ≤ c0) (K1 : Nat) (h1 : PPg.galoislaw23_large.f K1 a L = some true) : Calls Try.prog 5 #[.agg #[.int .i64 a, .slice A0 L.length c0]] w fun e w' => e = .returned (.bool true) ∧ Below w.heap.size w w' := by
  have H1 := Aside0.mk h1
  clear h1
  have hu := Try.underlying37
  have HB : Aside0 (Below (w.alloc (.cells #[.int .i64 a, .slice A0 L.length c0] 37)).heap.size (w.alloc (.cells #[.int .i64 a, .slice A0 L.length c0] 37)) (w.alloc (.cells #[.int .i64 a, .slice A0 L.length c0] 37))) := ⟨Below.refl _ _⟩
  have HGc := Aside0.mk hgc
  have HBW : Aside0 (Below w.heap.size w (w.alloc (.cells #[.int .i64 a, .slice A0 L.length c0] 37))) := ⟨below_alloc (Below.refl _ _) _⟩
  have HG := Aside0.mk (Kd.C_below hg HBW.out)
  have hx0 : (w.alloc (.cells #[.int .i64 a, .slice A0 L.length c0] 37)).cell? ⟨w.heap.size, 0, none⟩ = some (.int .i64 a) := by rw [World.cell?_alloc_at _ _ _ _ rfl]; rfl
  have hx1 : (w.alloc (.cells #[.int .i64 a, .slice A0 L.length c0] 37)).cell? ⟨w.heap.size, 1, none⟩ = some (.slice A0 L.length c0) := by rw [World.cell?_alloc_at _ _ _ _ rfl]; rfl
  clear hg hgc
  go_enter Try.func5, Try.ntmps5
  go_wp2_with (first
    | (go_at_call 26; have hq_ : w2 = w2 := rfl; clear hq_; (refine (galoislaw23_awake.calls true _ rfl).mono ?_); rintro e w3 ⟨rfl, hb3⟩; have hw3 := below_step (w := w2) bel0 hb3; replace HB := Aside0.mk (below_step HB.out hw3); replace HG := Aside0.mk (Kd.C_below HG.out hw3); replace hx0 := cell_move hx0 (fun hlt => hw3.block _ hlt); replace hx1 := cell_move hx1 (fun hlt => hw3.block _ hlt); clear hb3 hw3)
    | (go_at_call 27; have hq_ : w1 = w1 := rfl; clear hq_; (refine (PPg.galoislaw23_large.calls K1 a A0 c0 L true _ (Kd.C_below HG.out bel0) HGc.out H1.out).mono ?_); rintro e w2 ⟨rfl, hb2⟩; have hw2 := below_step (w := w1) bel0 hb2; replace HB := Aside0.mk (below_step HB.out hw2); replace HG := Aside0.mk (Kd.C_below HG.out hw2); replace hx0 := cell_move hx0 (fun hlt => hw2.block _ hlt); replace hx1 := cell_move hx1 (fun hlt => hw2.block _ hlt); clear hb2 hw2)
    | (go_at_call 26; (refine (galoislaw23_awake.calls true _ rfl).mono ?_); rintro e w1 ⟨rfl, hb1⟩; have hw1 := below_step (w := (w.alloc (.cells #[.int .i64 a, .slice A0 L.length c0] 37))) bel0 hb1; replace HB := Aside0.mk (below_step HB.out hw1); replace HG := Aside0.mk (Kd.C_below HG.out hw1); replace hx0 := cell_move hx0 (fun hlt => hw1.block _ hlt); replace hx1 := cell_move hx1 (fun hlt => hw1.block _ hlt); clear hb1 hw1))
  go_ret
  exact ⟨rfl, below_then (below_alloc (Below.refl _ _) _) (by simp) HB.out⟩
set_option maxHeartbeats 16000000 in
set_option maxRecDepth 100000 in
theorem forms_bad (a : Int) (A0 : Option Addr) (c0 : Nat) (L : List (List Int)) (w : World) (hg : Kd.C (Kd.slice 3 (Kd.int .i64)) w A0 L.length L) (hgc : L.length ≤ c0) (K1 K2 K3 K4 K5 K6 K7 : Nat) (h1 : PPg.galoislaw23_large.f K1 a L = some false) (wv : Int) (h2 : PRf.galoisref23_Check.f K2 a L = some wv) (h3 : permgroup_Order.f K3 a L = some (0, wv)) (h4 : PPg.permgroup_Elements.f K4 a L = some (([] : List (List Int)), wv)) (h5 : PPg.permgroup_Reduced.f K5 a L = some (0, ([] : List (List Int)), wv)) (h6 : permgroup_Chain.f K6 a L = some (([] : List S71), wv)) (h7 : PBs.permgroup_Check.f K7 a L = some wv) (hw : wv ≠ 0) (h8 : PPg.galoislaw23_none.f 0 [] = some true) : Calls Try.prog 5 #[.agg #[.int .i64 a, .slice A0 L.length c0]] w fun e w' => e = .returned (.bool true) ∧ Below w.heap.size w w' := by
  have H8 := Aside0.mk h8
  have q3 : (wv == 0) = false := beq_eq_false_iff_ne.mpr hw
  have q4 : (wv != 0) = true := bne_iff_ne.mpr hw
  clear h8 hw
  have H1 := Aside0.mk h1
  have H2 := Aside0.mk h2
  have H3 := Aside0.mk h3
  have H4 := Aside0.mk h4
  have H5 := Aside0.mk h5
  have H6 := Aside0.mk h6
  have H7 := Aside0.mk h7
  clear h1 h2 h3 h4 h5 h6 h7
  have hu := Try.underlying37
  have HB : Aside0 (Below (w.alloc (.cells #[.int .i64 a, .slice A0 L.length c0] 37)).heap.size (w.alloc (.cells #[.int .i64 a, .slice A0 L.length c0] 37)) (w.alloc (.cells #[.int .i64 a, .slice A0 L.length c0] 37))) := ⟨Below.refl _ _⟩
  have HGc := Aside0.mk hgc
  have HBW : Aside0 (Below w.heap.size w (w.alloc (.cells #[.int .i64 a, .slice A0 L.length c0] 37))) := ⟨below_alloc (Below.refl _ _) _⟩
  have HG := Aside0.mk (Kd.C_below hg HBW.out)
  have hx0 : (w.alloc (.cells #[.int .i64 a, .slice A0 L.length c0] 37)).cell? ⟨w.heap.size, 0, none⟩ = some (.int .i64 a) := by rw [World.cell?_alloc_at _ _ _ _ rfl]; rfl
  have hx1 : (w.alloc (.cells #[.int .i64 a, .slice A0 L.length c0] 37)).cell? ⟨w.heap.size, 1, none⟩ = some (.slice A0 L.length c0) := by rw [World.cell?_alloc_at _ _ _ _ rfl]; rfl
  clear hg hgc
  go_enter Try.func5, Try.ntmps5
  go_upto_region 6 with (first
    | (go_at_call 30; have hq_ : w4 = w4 := rfl; clear hq_; (refine (PPg.permgroup_Elements.calls K4 a A0 c0 L ([] : List (List Int)) wv _ (Kd.C_below HG.out bel0) HGc.out H4.out).mono ?_); rintro e w5 ⟨v5, rfl, hs5, hb5⟩; have hw5 := below_step (w := w4) bel0 hb5; replace HB := Aside0.mk (below_step HB.out hw5); replace HG := Aside0.mk (Kd.C_below HG.out hw5); replace hx0 := cell_move hx0 (fun hlt => hw5.block _ hlt); replace hx1 := cell_move hx1 (fun hlt => hw5.block _ hlt); obtain ⟨A5, c5, e5⟩ := Kd.R_slice (Kd.S_R hs5); subst e5; have HEL := Aside0.mk (Kd.S_reads' hs5).2.2; have HELc := Aside0.mk (Kd.S_reads' hs5).2.1; clear hs5; clear hb5 hw5)
    | (go_at_call 29; have hq_ : w3 = w3 := rfl; clear hq_; (refine (permgroup_Order.calls K3 a A0 c0 L 0 wv _ (Kd.C_below HG.out bel0) HGc.out H3.out).mono ?_); rintro e w4 ⟨rfl, hb4⟩; have hw4 := below_step (w := w3) bel0 hb4; replace HB := Aside0.mk (below_step HB.out hw4); replace HG := Aside0.mk (Kd.C_below HG.out hw4); replace hx0 := cell_move hx0 (fun hlt => hw4.block _ hlt); replace hx1 := cell_move hx1 (fun hlt => hw4.block _ hlt); clear hb4 hw4)
    | (go_at_call 28; have hq_ : w2 = w2 := rfl; clear hq_; (refine (PRf.galoisref23_Check.calls K2 a A0 c0 L wv _ (Kd.C_below HG.out bel0) HGc.out H2.out).mono ?_); rintro e w3 ⟨rfl, hb3⟩; have hw3 := below_step (w := w2) bel0 hb3; replace HB := Aside0.mk (below_step HB.out hw3); replace HG := Aside0.mk (Kd.C_below HG.out hw3); replace hx0 := cell_move hx0 (fun hlt => hw3.block _ hlt); replace hx1 := cell_move hx1 (fun hlt => hw3.block _ hlt); clear hb3 hw3)
    | (go_at_call 27; have hq_ : w1 = w1 := rfl; clear hq_; (refine (PPg.galoislaw23_large.calls K1 a A0 c0 L false _ (Kd.C_below HG.out bel0) HGc.out H1.out).mono ?_); rintro e w2 ⟨rfl, hb2⟩; have hw2 := below_step (w := w1) bel0 hb2; replace HB := Aside0.mk (below_step HB.out hw2); replace HG := Aside0.mk (Kd.C_below HG.out hw2); replace hx0 := cell_move hx0 (fun hlt => hw2.block _ hlt); replace hx1 := cell_move hx1 (fun hlt => hw2.block _ hlt); clear hb2 hw2)
    | (go_at_call 26; (refine (galoislaw23_awake.calls true _ rfl).mono ?_); rintro e w1 ⟨rfl, hb1⟩; have hw1 := below_step (w := (w.alloc (.cells #[.int .i64 a, .slice A0 L.length c0] 37))) bel0 hb1; replace HB := Aside0.mk (below_step HB.out hw1); replace HG := Aside0.mk (Kd.C_below HG.out hw1); replace hx0 := cell_move hx0 (fun hlt => hw1.block _ hlt); replace hx1 := cell_move hx1 (fun hlt => hw1.block _ hlt); clear hb1 hw1))
  go_cut [8, 9] (fun v5 v6 wx => ∃ (sb : Nat) (A : Option Addr) (c : Nat), v5 = .pointer (some ⟨sb, 0, none⟩) ∧ v6 = .int .i64 wv ∧ Aside0 (wx.heap[sb]? = some (.cells #[.int .i64 0, .slice A ([] : List (List Int)).length c] 37 (0, 0))) ∧ Aside0 (Kd.C (Kd.slice 3 (Kd.int .i64)) wx A ([] : List (List Int)).length ([] : List (List Int)) ∧ ([] : List (List Int)).length ≤ c) ∧ Aside0 (Below w5.heap.size w5 wx))
  case first =>
    go_wp2_with (go_at_call 31; (refine (PPg.permgroup_Reduced.calls K5 a A0 c0 L 0 ([] : List (List Int)) wv _ (Kd.C_below HG.out bel0) HGc.out H5.out).mono ?_); rintro e w5_ ⟨v5_, rfl, hs5, hb5⟩; have HS := Aside0.mk hs5; have HBC := Aside0.mk (below_step (w := w5) bel0 hb5); obtain ⟨A5_, c5_, e5_⟩ := Kd.R_slice (Kd.S_R hs5); subst e5_; clear hs5 hb5)
    go_meet
    first
      | exact ⟨_, A5_, c5_, rfl, rfl, ⟨blk_new _ _⟩, ⟨(Kd.S_reads' (Kd.S_alloc HS.out _)).2.2, (Kd.S_reads' HS.out).2.1⟩, ⟨below_then HBC.out HBC.out.size (below_alloc (Below.refl _ _) _)⟩⟩
      | (have hk0 := blk_new w5_ (.cells #[.int .i64 0, .slice none 0 0] 37); have p1 := blk_put hk0 0 (.int .i64 0) rfl; have p2 := blk_put p1 1 (.slice A5_ ([] : List (List Int)).length c5_) rfl; have hty : ∀ q, q ∈ 49 :: (Kd.slice 3 (Kd.int .i64)).E → q ≠ 37 := by decide; have s2 := Kd.S_set (Kd.S_set (Kd.S_alloc HS.out _) hk0 hty 0 (.int .i64 0)) p1 hty 1 (.slice A5_ ([] : List (List Int)).length c5_); exact ⟨_, A5_, c5_, rfl, rfl, ⟨p2⟩, ⟨(Kd.S_reads' s2).2.2, (Kd.S_reads' s2).2.1⟩, ⟨((below_then HBC.out HBC.out.size (below_alloc (Below.refl _ _) _)).setCell HBC.out.size _).setCell HBC.out.size _⟩⟩)
  case rest =>
    obtain ⟨sb, As, cs, rfl, rfl, HZS, HCS, HBX⟩ := hcut
    replace HB := Aside0.mk (below_step HB.out HBX.out)
    replace HG := Aside0.mk (Kd.C_below HG.out HBX.out)
    replace hx0 := cell_move hx0 (fun hlt => HBX.out.block _ hlt)
    replace hx1 := cell_move hx1 (fun hlt => HBX.out.block _ hlt)
    replace HEL := Aside0.mk (Kd.C_below HEL.out HBX.out)
    have HGS := Aside0.mk HCS.out.1
    have HGSc := Aside0.mk HCS.out.2
    have hs0 := blk_cell HZS.out 0
    have hs1 := blk_cell HZS.out 1
    simp only [List.getElem?_toArray, List.getElem?_cons_zero, List.getElem?_cons_succ] at hs0 hs1
    clear HBX HZS HCS
    go_wp2_with (first
      | (go_at_call 34; have hq_ : w11 = w11 := rfl; clear hq_; (refine (PPg.galoislaw23_none.calls 0 As cs [] true _ (Kd.C_below HGS.out bel0) HGSc.out H8.out).mono ?_); rintro e w12 ⟨rfl, hb12⟩; have hw12 := below_step (w := w11) bel0 hb12; replace HB := Aside0.mk (below_step HB.out hw12); replace HG := Aside0.mk (Kd.C_below HG.out hw12); replace hx0 := cell_move hx0 (fun hlt => hw12.block _ hlt); replace hx1 := cell_move hx1 (fun hlt => hw12.block _ hlt); replace HEL := Aside0.mk (Kd.C_below HEL.out hw12); replace HGS := Aside0.mk (Kd.C_below HGS.out hw12); replace hs0 := cell_move hs0 (fun hlt => hw12.block _ hlt); replace hs1 := cell_move hs1 (fun hlt => hw12.block _ hlt); replace HCH := Aside0.mk (Kd.C_below HCH.out hw12); clear hb12 hw12)
      | (go_at_call 33; have hq_ : w10 = w10 := rfl; clear hq_; (refine (PBs.permgroup_Check.calls K7 a A0 c0 L wv _ (Kd.C_below HG.out bel0) HGc.out H7.out).mono ?_); rintro e w11 ⟨rfl, hb11⟩; have hw11 := below_step (w := w10) bel0 hb11; replace HB := Aside0.mk (below_step HB.out hw11); replace HG := Aside0.mk (Kd.C_below HG.out hw11); replace hx0 := cell_move hx0 (fun hlt => hw11.block _ hlt); replace hx1 := cell_move hx1 (fun hlt => hw11.block _ hlt); replace HEL := Aside0.mk (Kd.C_below HEL.out hw11); replace HGS := Aside0.mk (Kd.C_below HGS.out hw11); replace hs0 := cell_move hs0 (fun hlt => hw11.block _ hlt); replace hs1 := cell_move hs1 (fun hlt => hw11.block _ hlt); replace HCH := Aside0.mk (Kd.C_below HCH.out hw11); clear hb11 hw11)
      | (go_at_call 32; have hq_ : wc = wc := rfl; clear hq_; (refine (permgroup_Chain.calls K6 a A0 c0 L ([] : List S71) wv _ (Kd.C_below HG.out bel0) HGc.out H6.out).mono ?_); rintro e w10 ⟨v10, rfl, hs10, hb10⟩; have hw10 := below_step (w := wc) bel0 hb10; replace HB := Aside0.mk (below_step HB.out hw10); replace HG := Aside0.mk (Kd.C_below HG.out hw10); replace hx0 := cell_move hx0 (fun hlt => hw10.block _ hlt); replace hx1 := cell_move hx1 (fun hlt => hw10.block _ hlt); replace HEL := Aside0.mk (Kd.C_below HEL.out hw10); replace HGS := Aside0.mk (Kd.C_below HGS.out hw10); replace hs0 := cell_move hs0 (fun hlt => hw10.block _ hlt); replace hs1 := cell_move hs1 (fun hlt => hw10.block _ hlt); obtain ⟨A10, c10, e10⟩ := Kd.R_slice hs10; subst e10; have HCH := Aside0.mk (Kd.R_reads' hs10).2.2; have HCHc := Aside0.mk (Kd.R_reads' hs10).2.1; clear hs10; clear hb10 hw10))
    go_ret
    exact ⟨rfl, below_then (below_alloc (Below.refl _ _) _) (by simp) HB.out⟩
set_option maxHeartbeats 16000000 in
set_option maxRecDepth 100000 in
theorem forms_ok (a : Int) (A0 : Option Addr) (c0 : Nat) (L : List (List Int)) (w : World) (hg : Kd.C (Kd.slice 3 (Kd.int .i64)) w A0 L.length L) (hgc : L.length ≤ c0) (K1 K2 K3 K4 K5 K6 K7 : Nat) (h1 : PPg.galoislaw23_large.f K1 a L = some false) (r1 : Int) (E1 R1 : List (List Int)) (C1 : List S71) (h2 : PRf.galoisref23_Check.f K2 a L = some 0) (h3 : permgroup_Order.f K3 a L = some ((E1.length : Int), 0)) (h4 : PPg.permgroup_Elements.f K4 a L = some (E1, 0)) (h5 : PPg.permgroup_Reduced.f K5 a L = some (r1, R1, 0)) (h6 : permgroup_Chain.f K6 a L = some (C1, 0)) (h7 : PBs.permgroup_Check.f K7 a L = some 0) (K8 K9 K10 K11 K12 K13 : Nat) (h8 : PPg.galoisref23_Elements.f K8 a L = some (E1, true)) (h9 : PRf.galoisref22_SamePerms.f K9 E1 E1 = some true) (h10 : PGr.galoisref23_Greedy.f K10 a E1 = some (r1, R1)) (h11 : PRf.galoisref23_Equal.f K11 r1 R1 r1 R1 = some true) (h12 : galoisref23_Chain.f K12 a E1 = some C1) (h13 : PSc.galoisref23_SameChains.f K13 C1 C1 = some true) : Calls Try.prog 5 #[.agg #[.int .i64 a, .slice A0 L.length c0]] w fun e w' => e = .returned (.bool true) ∧ Below w.heap.size w w' := by
  have H8 := Aside0.mk h8
  have H9 := Aside0.mk h9
  have H10 := Aside0.mk h10
  have H11 := Aside0.mk h11
  have H12 := Aside0.mk h12
  have H13 := Aside0.mk h13
  clear h8 h9 h10 h11 h12 h13
  have hee : ((E1.length : Int) == (E1.length : Int)) = true := beq_self_eq_true _
  have H1 := Aside0.mk h1
  have H2 := Aside0.mk h2
  have H3 := Aside0.mk h3
  have H4 := Aside0.mk h4
  have H5 := Aside0.mk h5
  have H6 := Aside0.mk h6
  have H7 := Aside0.mk h7
  clear h1 h2 h3 h4 h5 h6 h7
  have hu := Try.underlying37
  have HB : Aside0 (Below (w.alloc (.cells #[.int .i64 a, .slice A0 L.length c0] 37)).heap.size (w.alloc (.cells #[.int .i64 a, .slice A0 L.length c0] 37)) (w.alloc (.cells #[.int .i64 a, .slice A0 L.length c0] 37))) := ⟨Below.refl _ _⟩
  have HGc := Aside0.mk hgc
  have HBW : Aside0 (Below w.heap.size w (w.alloc (.cells #[.int .i64 a, .slice A0 L.length c0] 37))) := ⟨below_alloc (Below.refl _ _) _⟩
  have HG := Aside0.mk (Kd.C_below hg HBW.out)
  have hx0 : (w.alloc (.cells #[.int .i64 a, .slice A0 L.length c0] 37)).cell? ⟨w.heap.size, 0, none⟩ = some (.int .i64 a) := by rw [World.cell?_alloc_at _ _ _ _ rfl]; rfl
  have hx1 : (w.alloc (.cells #[.int .i64 a, .slice A0 L.length c0] 37)).cell? ⟨w.heap.size, 1, none⟩ = some (.slice A0 L.length c0) := by rw [World.cell?_alloc_at _ _ _ _ rfl]; rfl
  clear hg hgc
  go_enter Try.func5, Try.ntmps5
  go_upto_region 6 with (first
    | (go_at_call 30; have hq_ : w4 = w4 := rfl; clear hq_; (refine (PPg.permgroup_Elements.calls K4 a A0 c0 L E1 0 _ (Kd.C_below HG.out bel0) HGc.out H4.out).mono ?_); rintro e w5 ⟨v5, rfl, hs5, hb5⟩; have hw5 := below_step (w := w4) bel0 hb5; replace HB := Aside0.mk (below_step HB.out hw5); replace HG := Aside0.mk (Kd.C_below HG.out hw5); replace hx0 := cell_move hx0 (fun hlt => hw5.block _ hlt); replace hx1 := cell_move hx1 (fun hlt => hw5.block _ hlt); obtain ⟨A5, c5, e5⟩ := Kd.R_slice (Kd.S_R hs5); subst e5; have HEL := Aside0.mk (Kd.S_reads' hs5).2.2; have HELc := Aside0.mk (Kd.S_reads' hs5).2.1; clear hs5; clear hb5 hw5)
    | (go_at_call 29; have hq_ : w3 = w3 := rfl; clear hq_; (refine (permgroup_Order.calls K3 a A0 c0 L (E1.length : Int) 0 _ (Kd.C_below HG.out bel0) HGc.out H3.out).mono ?_); rintro e w4 ⟨rfl, hb4⟩; have hw4 := below_step (w := w3) bel0 hb4; replace HB := Aside0.mk (below_step HB.out hw4); replace HG := Aside0.mk (Kd.C_below HG.out hw4); replace hx0 := cell_move hx0 (fun hlt => hw4.block _ hlt); replace hx1 := cell_move hx1 (fun hlt => hw4.block _ hlt); clear hb4 hw4)
    | (go_at_call 28; have hq_ : w2 = w2 := rfl; clear hq_; (refine (PRf.galoisref23_Check.calls K2 a A0 c0 L 0 _ (Kd.C_below HG.out bel0) HGc.out H2.out).mono ?_); rintro e w3 ⟨rfl, hb3⟩; have hw3 := below_step (w := w2) bel0 hb3; replace HB := Aside0.mk (below_step HB.out hw3); replace HG := Aside0.mk (Kd.C_below HG.out hw3); replace hx0 := cell_move hx0 (fun hlt => hw3.block _ hlt); replace hx1 := cell_move hx1 (fun hlt => hw3.block _ hlt); clear hb3 hw3)
    | (go_at_call 27; have hq_ : w1 = w1 := rfl; clear hq_; (refine (PPg.galoislaw23_large.calls K1 a A0 c0 L false _ (Kd.C_below HG.out bel0) HGc.out H1.out).mono ?_); rintro e w2 ⟨rfl, hb2⟩; have hw2 := below_step (w := w1) bel0 hb2; replace HB := Aside0.mk (below_step HB.out hw2); replace HG := Aside0.mk (Kd.C_below HG.out hw2); replace hx0 := cell_move hx0 (fun hlt => hw2.block _ hlt); replace hx1 := cell_move hx1 (fun hlt => hw2.block _ hlt); clear hb2 hw2)
    | (go_at_call 26; (refine (galoislaw23_awake.calls true _ rfl).mono ?_); rintro e w1 ⟨rfl, hb1⟩; have hw1 := below_step (w := (w.alloc (.cells #[.int .i64 a, .slice A0 L.length c0] 37))) bel0 hb1; replace HB := Aside0.mk (below_step HB.out hw1); replace HG := Aside0.mk (Kd.C_below HG.out hw1); replace hx0 := cell_move hx0 (fun hlt => hw1.block _ hlt); replace hx1 := cell_move hx1 (fun hlt => hw1.block _ hlt); clear hb1 hw1))
  go_cut [8, 9] (fun v5 v6 wx => ∃ (sb : Nat) (A : Option Addr) (c : Nat), v5 = .pointer (some ⟨sb, 0, none⟩) ∧ v6 = .int .i64 0 ∧ Aside0 (wx.heap[sb]? = some (.cells #[.int .i64 r1, .slice A R1.length c] 37 (0, 0))) ∧ Aside0 (Kd.C (Kd.slice 3 (Kd.int .i64)) wx A R1.length R1 ∧ R1.length ≤ c) ∧ Aside0 (Below w5.heap.size w5 wx))
  case first =>
    go_wp2_with (go_at_call 31; (refine (PPg.permgroup_Reduced.calls K5 a A0 c0 L r1 R1 0 _ (Kd.C_below HG.out bel0) HGc.out H5.out).mono ?_); rintro e w5_ ⟨v5_, rfl, hs5, hb5⟩; have HS := Aside0.mk hs5; have HBC := Aside0.mk (below_step (w := w5) bel0 hb5); obtain ⟨A5_, c5_, e5_⟩ := Kd.R_slice (Kd.S_R hs5); subst e5_; clear hs5 hb5)
    go_meet
    first
      | exact ⟨_, A5_, c5_, rfl, rfl, ⟨blk_new _ _⟩, ⟨(Kd.S_reads' (Kd.S_alloc HS.out _)).2.2, (Kd.S_reads' HS.out).2.1⟩, ⟨below_then HBC.out HBC.out.size (below_alloc (Below.refl _ _) _)⟩⟩
      | (have hk0 := blk_new w5_ (.cells #[.int .i64 0, .slice none 0 0] 37); have p1 := blk_put hk0 0 (.int .i64 r1) rfl; have p2 := blk_put p1 1 (.slice A5_ R1.length c5_) rfl; have hty : ∀ q, q ∈ 49 :: (Kd.slice 3 (Kd.int .i64)).E → q ≠ 37 := by decide; have s2 := Kd.S_set (Kd.S_set (Kd.S_alloc HS.out _) hk0 hty 0 (.int .i64 r1)) p1 hty 1 (.slice A5_ R1.length c5_); exact ⟨_, A5_, c5_, rfl, rfl, ⟨p2⟩, ⟨(Kd.S_reads' s2).2.2, (Kd.S_reads' s2).2.1⟩, ⟨((below_then HBC.out HBC.out.size (below_alloc (Below.refl _ _) _)).setCell HBC.out.size _).setCell HBC.out.size _⟩⟩)
  case rest =>
    obtain ⟨sb, As, cs, rfl, rfl, HZS, HCS, HBX⟩ := hcut
    replace HB := Aside0.mk (below_step HB.out HBX.out)
    replace HG := Aside0.mk (Kd.C_below HG.out HBX.out)
    replace hx0 := cell_move hx0 (fun hlt => HBX.out.block _ hlt)
    replace hx1 := cell_move hx1 (fun hlt => HBX.out.block _ hlt)
    replace HEL := Aside0.mk (Kd.C_below HEL.out HBX.out)
    have HGS := Aside0.mk HCS.out.1
    have HGSc := Aside0.mk HCS.out.2
    have hs0 := blk_cell HZS.out 0
    have hs1 := blk_cell HZS.out 1
    simp only [List.getElem?_toArray, List.getElem?_cons_zero, List.getElem?_cons_succ] at hs0 hs1
    clear HBX HZS HCS
    go_upto_region 13 with (first
      | (go_at_call 35; have hq_ : w11 = w11 := rfl; clear hq_; (refine (PPg.galoisref23_Elements.calls K8 a A0 c0 L E1 true _ (Kd.C_below HG.out bel0) HGc.out H8.out).mono ?_); rintro e w12 ⟨v12, rfl, hs12, hb12⟩; have hw12 := below_step (w := w11) bel0 hb12; replace HB := Aside0.mk (below_step HB.out hw12); replace HG := Aside0.mk (Kd.C_below HG.out hw12); replace hx0 := cell_move hx0 (fun hlt => hw12.block _ hlt); replace hx1 := cell_move hx1 (fun hlt => hw12.block _ hlt); replace HEL := Aside0.mk (Kd.C_below HEL.out hw12); replace HGS := Aside0.mk (Kd.C_below HGS.out hw12); replace hs0 := cell_move hs0 (fun hlt => hw12.block _ hlt); replace hs1 := cell_move hs1 (fun hlt => hw12.block _ hlt); replace HCH := Aside0.mk (Kd.C_below HCH.out hw12); obtain ⟨A12, c12, e12⟩ := Kd.R_slice (Kd.S_R hs12); subst e12; have HE := Aside0.mk (Kd.S_reads' hs12).2.2; have HEc := Aside0.mk (Kd.S_reads' hs12).2.1; clear hs12; clear hb12 hw12)
      | (go_at_call 33; have hq_ : w10 = w10 := rfl; clear hq_; (refine (PBs.permgroup_Check.calls K7 a A0 c0 L 0 _ (Kd.C_below HG.out bel0) HGc.out H7.out).mono ?_); rintro e w11 ⟨rfl, hb11⟩; have hw11 := below_step (w := w10) bel0 hb11; replace HB := Aside0.mk (below_step HB.out hw11); replace HG := Aside0.mk (Kd.C_below HG.out hw11); replace hx0 := cell_move hx0 (fun hlt => hw11.block _ hlt); replace hx1 := cell_move hx1 (fun hlt => hw11.block _ hlt); replace HEL := Aside0.mk (Kd.C_below HEL.out hw11); replace HGS := Aside0.mk (Kd.C_below HGS.out hw11); replace hs0 := cell_move hs0 (fun hlt => hw11.block _ hlt); replace hs1 := cell_move hs1 (fun hlt => hw11.block _ hlt); replace HCH := Aside0.mk (Kd.C_below HCH.out hw11); clear hb11 hw11)
      | (go_at_call 32; have hq_ : wc = wc := rfl; clear hq_; (refine (permgroup_Chain.calls K6 a A0 c0 L C1 0 _ (Kd.C_below HG.out bel0) HGc.out H6.out).mono ?_); rintro e w10 ⟨v10, rfl, hs10, hb10⟩; have hw10 := below_step (w := wc) bel0 hb10; replace HB := Aside0.mk (below_step HB.out hw10); replace HG := Aside0.mk (Kd.C_below HG.out hw10); replace hx0 := cell_move hx0 (fun hlt => hw10.block _ hlt); replace hx1 := cell_move hx1 (fun hlt => hw10.block _ hlt); replace HEL := Aside0.mk (Kd.C_below HEL.out hw10); replace HGS := Aside0.mk (Kd.C_below HGS.out hw10); replace hs0 := cell_move hs0 (fun hlt => hw10.block _ hlt); replace hs1 := cell_move hs1 (fun hlt => hw10.block _ hlt); obtain ⟨A10, c10, e10⟩ := Kd.R_slice hs10; subst e10; have HCH := Aside0.mk (Kd.R_reads' hs10).2.2; have HCHc := Aside0.mk (Kd.R_reads' hs10).2.1; clear hs10; clear hb10 hw10))
    refine wp_region_held_drew (S := (fun w' => w'.cell? ⟨w.heap.size, 0, none⟩ = some (.int .i64 a) ∧ w'.cell? ⟨sb, 0, none⟩ = some (.int .i64 r1) ∧ w'.cell? ⟨sb, 1, none⟩ = some (.slice As R1.length cs))) (by kernel_rfl) ?_ (fun hHeld => ?_)
    · exact ⟨hx0, hs0, hs1⟩
    refine wpAnyH_take (i := 0) (oi := { dst := some 90, op := Op.move (Operand.tmp 4), type := 3, pos := "law.go:51", after := #[], guard := none }) (v := ?_) rfl (by kernel_rfl) (by kernel_rfl) (by kernel_rfl) (fun _ _ _ h => h) (Or.inl ⟨by rfl, ?_⟩) (by assumption) ?_
    rotate_left 1
    · (intro w hSw; (try dsimp only at hSw); go_simp; (try with_reducible rfl))
    try simp only [Act.put, List.setIfInBounds_toArray, List.set_cons_zero, List.set_cons_succ]
    refine wpAnyH_take (i := 1) (oi := { dst := some 91, op := Op.move (Operand.tmp 12), type := 35, pos := "law.go:51", after := #[], guard := none }) (v := ?_) rfl (by kernel_rfl) (by kernel_rfl) (by kernel_rfl) (fun _ _ _ h => h) (Or.inl ⟨by rfl, ?_⟩) (by assumption) ?_
    rotate_left 1
    · (intro w hSw; (try dsimp only at hSw); go_simp; (try with_reducible rfl))
    try simp only [Act.put, List.setIfInBounds_toArray, List.set_cons_zero, List.set_cons_succ]
    refine wpAnyH_take (i := 2) (oi := { dst := some 92, op := Op.call { callee := Callee.builtin Builtin.len, args := #[Operand.tmp 91], argTypes := #[35] }, type := 3, pos := "law.go:51", after := #[{ on := 1, ground := Ground.data }], guard := none }) (v := ?_) rfl (by kernel_rfl) (by kernel_rfl) (by kernel_rfl) (fun _ _ _ h => h) (Or.inl ⟨by rfl, ?_⟩) (by assumption) ?_
    rotate_left 1
    · (intro w hSw; (try dsimp only at hSw); go_simp; (try with_reducible rfl))
    try simp only [Act.put, List.setIfInBounds_toArray, List.set_cons_zero, List.set_cons_succ]
    refine wpAnyH_take (i := 3) (oi := { dst := some 93, op := Op.binOp BinOp.eql 3 (Operand.tmp 90) (Operand.tmp 92) 3, type := 4, pos := "law.go:51", after := #[{ on := 0, ground := Ground.data }, { on := 2, ground := Ground.data }], guard := none }) (v := ?_) rfl (by kernel_rfl) (by kernel_rfl) (by kernel_rfl) (fun _ _ _ h => h) (Or.inl ⟨by rfl, ?_⟩) (by assumption) ?_
    rotate_left 1
    · (intro w hSw; (try dsimp only at hSw); go_simp; (try with_reducible rfl))
    try simp only [Act.put, List.setIfInBounds_toArray, List.set_cons_zero, List.set_cons_succ]
    refine wpAnyH_take (i := 4) (oi := { dst := some 94, op := Op.move (Operand.tmp 93), type := 4, pos := "law.go:51", after := #[{ on := 3, ground := Ground.data }], guard := none }) (v := ?_) rfl (by kernel_rfl) (by kernel_rfl) (by kernel_rfl) (fun _ _ _ h => h) (Or.inl ⟨by rfl, ?_⟩) (by assumption) ?_
    rotate_left 1
    · (intro w hSw; (try dsimp only at hSw); go_simp; (try with_reducible rfl))
    try simp only [Act.put, List.setIfInBounds_toArray, List.set_cons_zero, List.set_cons_succ]
    refine wpAnyH_take (i := 5) (oi := { dst := some 95, op := Op.move (Operand.tmp 6), type := 35, pos := "law.go:51", after := #[{ on := 4, ground := Ground.guard }], guard := some (4, true) }) (v := ?_) rfl (by kernel_rfl) (by kernel_rfl) (by kernel_rfl) (fun _ _ _ h => h) (Or.inl ⟨by rfl, ?_⟩) (by assumption) ?_
    rotate_left 1
    · (intro w hSw; (try dsimp only at hSw); go_simp; (try with_reducible rfl))
    try simp only [Act.put, List.setIfInBounds_toArray, List.set_cons_zero, List.set_cons_succ]
    refine wpAnyH_take (i := 6) (oi := { dst := some 96, op := Op.move (Operand.tmp 12), type := 35, pos := "law.go:51", after := #[{ on := 4, ground := Ground.guard }], guard := some (4, true) }) (v := ?_) rfl (by kernel_rfl) (by kernel_rfl) (by kernel_rfl) (fun _ _ _ h => h) (Or.inl ⟨by rfl, ?_⟩) (by assumption) ?_
    rotate_left 1
    · (intro w hSw; (try dsimp only at hSw); go_simp; (try with_reducible rfl))
    try simp only [Act.put, List.setIfInBounds_toArray, List.set_cons_zero, List.set_cons_succ]
    refine wpAnyH_ready (rs := [7]) (by kernel_rfl) (by simp) ?_
    refine AllReadyH.cons (o := { dst := some 97, op := Op.call { callee := Callee.value (Operand.func 36), args := #[Operand.tmp 95, Operand.tmp 96], argTypes := #[35, 35] }, type := 4, pos := "law.go:51", after := #[{ on := 5, ground := Ground.data }, { on := 6, ground := Ground.data }, { on := 4, ground := Ground.chain }, { on := 4, ground := Ground.guard }], guard := some (4, true) }) rfl (fun K hK => ?_) AllReadyH.nil
    go_simp
    (go_at_call 36; have hq_ : w12 = w12 := rfl; clear hq_; (refine (PRf.galoisref22_SamePerms.calls K9 A5 c5 E1 A12 c12 E1 true _ (Kd.C_below HEL.out bel0) HELc.out (Kd.C_below HE.out bel0) HEc.out H9.out).mono ?_); rintro e w14 ⟨rfl, hb14⟩; have hb14 := hb14.below; have hw14 := below_step (w := w12) bel0 hb14; replace HB := Aside0.mk (below_step HB.out hw14); replace HG := Aside0.mk (Kd.C_below HG.out hw14); replace hx0 := cell_move hx0 (fun hlt => hw14.block _ hlt); replace hx1 := cell_move hx1 (fun hlt => hw14.block _ hlt); replace HEL := Aside0.mk (Kd.C_below HEL.out hw14); replace HGS := Aside0.mk (Kd.C_below HGS.out hw14); replace hs0 := cell_move hs0 (fun hlt => hw14.block _ hlt); replace hs1 := cell_move hs1 (fun hlt => hw14.block _ hlt); replace HCH := Aside0.mk (Kd.C_below HCH.out hw14); replace HE := Aside0.mk (Kd.C_below HE.out hw14); clear hb14 hw14)
    refine hK.out _ _ ?_ (fun hHeld => ?_)
    · exact ⟨hx0, hs0, hs1⟩
    clear hK K
    try simp only [Act.put, List.setIfInBounds_toArray, List.set_cons_zero, List.set_cons_succ]
    refine wpAnyH_take (i := 8) (oi := { dst := some 98, op := Op.pick (Operand.tmp 94) (Operand.tmp 97) (Operand.const (Value.bool false)), type := 4, pos := "law.go:51", after := #[{ on := 4, ground := Ground.data }, { on := 7, ground := Ground.data }], guard := none }) (v := ?_) rfl (by kernel_rfl) (by kernel_rfl) (by kernel_rfl) (fun _ _ _ h => h) (Or.inl ⟨by rfl, ?_⟩) (by assumption) ?_
    rotate_left 1
    · (intro w hSw; (try dsimp only at hSw); go_simp; (try with_reducible rfl))
    try simp only [Act.put, List.setIfInBounds_toArray, List.set_cons_zero, List.set_cons_succ]
    refine wpAnyH_take (i := 9) (oi := { dst := some 99, op := Op.move (Operand.tmp 98), type := 4, pos := "law.go:51", after := #[{ on := 8, ground := Ground.data }, { on := 7, ground := Ground.chain }], guard := none }) (v := ?_) rfl (by kernel_rfl) (by kernel_rfl) (by kernel_rfl) (fun _ _ _ h => h) (Or.inl ⟨by rfl, ?_⟩) (by assumption) ?_
    rotate_left 1
    · (intro w hSw; (try dsimp only at hSw); go_simp; (try with_reducible rfl))
    try simp only [Act.put, List.setIfInBounds_toArray, List.set_cons_zero, List.set_cons_succ]
    refine wpAnyH_take (i := 10) (oi := { dst := some 100, op := Op.load 37 (Operand.tmp 8), type := 37, pos := "law.go:51", after := #[{ on := 9, ground := Ground.guard }], guard := some (9, true) }) (v := ?_) rfl (by kernel_rfl) (by kernel_rfl) (by kernel_rfl) (fun _ _ _ h => h) (Or.inl ⟨by rfl, ?_⟩) (by assumption) ?_
    rotate_left 1
    · (intro w hSw; (try dsimp only at hSw); go_simp; (try with_reducible rfl))
    try simp only [Act.put, List.setIfInBounds_toArray, List.set_cons_zero, List.set_cons_succ]
    refine wpAnyH_take (i := 11) (oi := { dst := some 101, op := Op.fieldAddr 37 (Operand.tmp 1) 0, type := 0, pos := "law.go:51", after := #[{ on := 9, ground := Ground.guard }], guard := some (9, true) }) (v := ?_) rfl (by kernel_rfl) (by kernel_rfl) (by kernel_rfl) (fun _ _ _ h => h) (Or.inl ⟨by rfl, ?_⟩) (by assumption) ?_
    rotate_left 1
    · (intro w hSw; (try dsimp only at hSw); go_simp; (try with_reducible rfl))
    try simp only [Act.put, List.setIfInBounds_toArray, List.set_cons_zero, List.set_cons_succ]
    refine wpAnyH_take (i := 12) (oi := { dst := some 102, op := Op.load 3 (Operand.tmp 101), type := 3, pos := "law.go:51", after := #[{ on := 11, ground := Ground.data }, { on := 9, ground := Ground.guard }], guard := some (9, true) }) (v := ?_) rfl (by kernel_rfl) (by kernel_rfl) (by kernel_rfl) (fun _ _ _ h => h) (Or.inl ⟨by rfl, ?_⟩) (by assumption) ?_
    rotate_left 1
    · (intro w hSw; (try dsimp only at hSw); go_simp; (try with_reducible rfl))
    try simp only [Act.put, List.setIfInBounds_toArray, List.set_cons_zero, List.set_cons_succ]
    refine wpAnyH_take (i := 13) (oi := { dst := some 103, op := Op.move (Operand.tmp 12), type := 35, pos := "law.go:51", after := #[{ on := 9, ground := Ground.guard }], guard := some (9, true) }) (v := ?_) rfl (by kernel_rfl) (by kernel_rfl) (by kernel_rfl) (fun _ _ _ h => h) (Or.inl ⟨by rfl, ?_⟩) (by assumption) ?_
    rotate_left 1
    · (intro w hSw; (try dsimp only at hSw); go_simp; (try with_reducible rfl))
    try simp only [Act.put, List.setIfInBounds_toArray, List.set_cons_zero, List.set_cons_succ]
    refine wpAnyH_ready (rs := [14]) (by kernel_rfl) (by simp) ?_
    refine AllReadyH.cons (o := { dst := some 104, op := Op.call { callee := Callee.value (Operand.func 38), args := #[Operand.tmp 102, Operand.tmp 103], argTypes := #[3, 35] }, type := 37, pos := "law.go:51", after := #[{ on := 12, ground := Ground.data }, { on := 13, ground := Ground.data }, { on := 9, ground := Ground.chain }, { on := 9, ground := Ground.guard }], guard := some (9, true) }) rfl (fun K hK => ?_) AllReadyH.nil
    go_simp
    (go_at_call 38; have hq_ : w14 = w14 := rfl; clear hq_; (refine (greedy_C K10 a A12 c12 E1 r1 R1 _ (Kd.C_below HE.out bel0) HEc.out H10.out).mono ?_); rintro e w15 ⟨A15, c15, rfl, hc15, hC15, hb15⟩; have hw15 := below_step (w := w14) bel0 hb15; replace HB := Aside0.mk (below_step HB.out hw15); replace HG := Aside0.mk (Kd.C_below HG.out hw15); replace hx0 := cell_move hx0 (fun hlt => hw15.block _ hlt); replace hx1 := cell_move hx1 (fun hlt => hw15.block _ hlt); replace HEL := Aside0.mk (Kd.C_below HEL.out hw15); replace HGS := Aside0.mk (Kd.C_below HGS.out hw15); replace hs0 := cell_move hs0 (fun hlt => hw15.block _ hlt); replace hs1 := cell_move hs1 (fun hlt => hw15.block _ hlt); replace HCH := Aside0.mk (Kd.C_below HCH.out hw15); replace HE := Aside0.mk (Kd.C_below HE.out hw15); have HY := Aside0.mk hC15; have HYc := Aside0.mk hc15; clear hC15 hc15; clear hb15 hw15)
    refine hK.out _ _ ?_ (fun hHeld => ?_)
    · exact ⟨hx0, hs0, hs1⟩
    clear hK K
    try simp only [Act.put, List.setIfInBounds_toArray, List.set_cons_zero, List.set_cons_succ]
    refine wpAnyH_ready (rs := [15]) (by kernel_rfl) (by simp) ?_
    refine AllReadyH.cons (o := { dst := some 105, op := Op.call { callee := Callee.value (Operand.func 37), args := #[Operand.tmp 100, Operand.tmp 104], argTypes := #[37, 37] }, type := 4, pos := "law.go:51", after := #[{ on := 10, ground := Ground.data }, { on := 14, ground := Ground.data }, { on := 14, ground := Ground.chain }, { on := 9, ground := Ground.guard }], guard := some (9, true) }) rfl (fun K hK => ?_) AllReadyH.nil
    go_simp
    (go_at_call 37; have hq_ : w15 = w15 := rfl; clear hq_; (refine (PRf.galoisref23_Equal.calls K11 r1 As cs R1 r1 A15 c15 R1 true _ (Kd.C_below HGS.out bel0) HGSc.out (Kd.C_below HY.out bel0) HYc.out H11.out).mono ?_); rintro e w16 ⟨rfl, hb16⟩; have hw16 := below_step (w := w15) bel0 hb16; replace HB := Aside0.mk (below_step HB.out hw16); replace HG := Aside0.mk (Kd.C_below HG.out hw16); replace hx0 := cell_move hx0 (fun hlt => hw16.block _ hlt); replace hx1 := cell_move hx1 (fun hlt => hw16.block _ hlt); replace HEL := Aside0.mk (Kd.C_below HEL.out hw16); replace HGS := Aside0.mk (Kd.C_below HGS.out hw16); replace hs0 := cell_move hs0 (fun hlt => hw16.block _ hlt); replace hs1 := cell_move hs1 (fun hlt => hw16.block _ hlt); replace HCH := Aside0.mk (Kd.C_below HCH.out hw16); replace HE := Aside0.mk (Kd.C_below HE.out hw16); replace HY := Aside0.mk (Kd.C_below HY.out hw16); clear hb16 hw16)
    refine hK.out _ _ ?_ (fun hHeld => ?_)
    · exact ⟨hx0, hs0, hs1⟩
    clear hK K
    try simp only [Act.put, List.setIfInBounds_toArray, List.set_cons_zero, List.set_cons_succ]
    refine wpAnyH_take (i := 16) (oi := { dst := some 106, op := Op.pick (Operand.tmp 99) (Operand.tmp 105) (Operand.const (Value.bool false)), type := 4, pos := "law.go:51", after := #[{ on := 9, ground := Ground.data }, { on := 15, ground := Ground.data }], guard := none }) (v := ?_) rfl (by kernel_rfl) (by kernel_rfl) (by kernel_rfl) (fun _ _ _ h => h) (Or.inl ⟨by rfl, ?_⟩) (by assumption) ?_
    rotate_left 1
    · (intro w hSw; (try dsimp only at hSw); go_simp; (try with_reducible rfl))
    try simp only [Act.put, List.setIfInBounds_toArray, List.set_cons_zero, List.set_cons_succ]
    refine wpAnyH_take (i := 17) (oi := { dst := some 107, op := Op.move (Operand.tmp 106), type := 4, pos := "law.go:51", after := #[{ on := 16, ground := Ground.data }, { on := 15, ground := Ground.chain }], guard := none }) (v := ?_) rfl (by kernel_rfl) (by kernel_rfl) (by kernel_rfl) (fun _ _ _ h => h) (Or.inl ⟨by rfl, ?_⟩) (by assumption) ?_
    rotate_left 1
    · (intro w hSw; (try dsimp only at hSw); go_simp; (try with_reducible rfl))
    try simp only [Act.put, List.setIfInBounds_toArray, List.set_cons_zero, List.set_cons_succ]
    refine wpAnyH_take (i := 18) (oi := { dst := some 108, op := Op.move (Operand.tmp 10), type := 59, pos := "law.go:51", after := #[{ on := 17, ground := Ground.guard }], guard := some (17, true) }) (v := ?_) rfl (by kernel_rfl) (by kernel_rfl) (by kernel_rfl) (fun _ _ _ h => h) (Or.inl ⟨by rfl, ?_⟩) (by assumption) ?_
    rotate_left 1
    · (intro w hSw; (try dsimp only at hSw); go_simp; (try with_reducible rfl))
    try simp only [Act.put, List.setIfInBounds_toArray, List.set_cons_zero, List.set_cons_succ]
    refine wpAnyH_take (i := 19) (oi := { dst := some 109, op := Op.fieldAddr 37 (Operand.tmp 1) 0, type := 0, pos := "law.go:51", after := #[{ on := 17, ground := Ground.guard }], guard := some (17, true) }) (v := ?_) rfl (by kernel_rfl) (by kernel_rfl) (by kernel_rfl) (fun _ _ _ h => h) (Or.inl ⟨by rfl, ?_⟩) (by assumption) ?_
    rotate_left 1
    · (intro w hSw; (try dsimp only at hSw); go_simp; (try with_reducible rfl))
    try simp only [Act.put, List.setIfInBounds_toArray, List.set_cons_zero, List.set_cons_succ]
    refine wpAnyH_take (i := 20) (oi := { dst := some 110, op := Op.load 3 (Operand.tmp 109), type := 3, pos := "law.go:51", after := #[{ on := 19, ground := Ground.data }, { on := 17, ground := Ground.guard }], guard := some (17, true) }) (v := ?_) rfl (by kernel_rfl) (by kernel_rfl) (by kernel_rfl) (fun _ _ _ h => h) (Or.inl ⟨by rfl, ?_⟩) (by assumption) ?_
    rotate_left 1
    · (intro w hSw; (try dsimp only at hSw); go_simp; (try with_reducible rfl))
    try simp only [Act.put, List.setIfInBounds_toArray, List.set_cons_zero, List.set_cons_succ]
    refine wpAnyH_take (i := 21) (oi := { dst := some 111, op := Op.move (Operand.tmp 12), type := 35, pos := "law.go:51", after := #[{ on := 17, ground := Ground.guard }], guard := some (17, true) }) (v := ?_) rfl (by kernel_rfl) (by kernel_rfl) (by kernel_rfl) (fun _ _ _ h => h) (Or.inl ⟨by rfl, ?_⟩) (by assumption) ?_
    rotate_left 1
    · (intro w hSw; (try dsimp only at hSw); go_simp; (try with_reducible rfl))
    try simp only [Act.put, List.setIfInBounds_toArray, List.set_cons_zero, List.set_cons_succ]
    refine wpAnyH_ready (rs := [22]) (by kernel_rfl) (by simp) ?_
    refine AllReadyH.cons (o := { dst := some 112, op := Op.call { callee := Callee.value (Operand.func 40), args := #[Operand.tmp 110, Operand.tmp 111], argTypes := #[3, 35] }, type := 59, pos := "law.go:51", after := #[{ on := 20, ground := Ground.data }, { on := 21, ground := Ground.data }, { on := 17, ground := Ground.chain }, { on := 17, ground := Ground.guard }], guard := some (17, true) }) rfl (fun K hK => ?_) AllReadyH.nil
    go_simp
    (go_at_call 40; have hq_ : w16 = w16 := rfl; clear hq_; (refine (galoisref23_Chain.calls K12 a A12 c12 E1 C1 _ (Kd.C_below HE.out bel0) HEc.out H12.out).mono ?_); rintro e w17 ⟨A17, c17, rfl, hc17, hC17, hb17⟩; have hw17 := below_step (w := w16) bel0 hb17; replace HB := Aside0.mk (below_step HB.out hw17); replace HG := Aside0.mk (Kd.C_below HG.out hw17); replace hx0 := cell_move hx0 (fun hlt => hw17.block _ hlt); replace hx1 := cell_move hx1 (fun hlt => hw17.block _ hlt); replace HEL := Aside0.mk (Kd.C_below HEL.out hw17); replace HGS := Aside0.mk (Kd.C_below HGS.out hw17); replace hs0 := cell_move hs0 (fun hlt => hw17.block _ hlt); replace hs1 := cell_move hs1 (fun hlt => hw17.block _ hlt); replace HCH := Aside0.mk (Kd.C_below HCH.out hw17); replace HE := Aside0.mk (Kd.C_below HE.out hw17); replace HY := Aside0.mk (Kd.C_below HY.out hw17); have HZ := Aside0.mk hC17; have HZc := Aside0.mk hc17; clear hC17 hc17; clear hb17 hw17)
    refine hK.out _ _ ?_ (fun hHeld => ?_)
    · exact ⟨hx0, hs0, hs1⟩
    clear hK K
    try simp only [Act.put, List.setIfInBounds_toArray, List.set_cons_zero, List.set_cons_succ]
    refine wpAnyH_ready (rs := [23]) (by kernel_rfl) (by simp) ?_
    refine AllReadyH.cons (o := { dst := some 113, op := Op.call { callee := Callee.value (Operand.func 39), args := #[Operand.tmp 108, Operand.tmp 112], argTypes := #[59, 59] }, type := 4, pos := "law.go:51", after := #[{ on := 18, ground := Ground.data }, { on := 22, ground := Ground.data }, { on := 22, ground := Ground.chain }, { on := 17, ground := Ground.guard }], guard := some (17, true) }) rfl (fun K hK => ?_) AllReadyH.nil
    go_simp
    (go_at_call 39; have hq_ : w17 = w17 := rfl; clear hq_; (refine (PSc.galoisref23_SameChains.calls K13 A10 c10 C1 A17 c17 C1 true _ (Kd.C_below HCH.out bel0) HCHc.out (Kd.C_below HZ.out bel0) HZc.out H13.out).mono ?_); rintro e w18 ⟨rfl, hb18⟩; have hw18 := below_step (w := w17) bel0 hb18; replace HB := Aside0.mk (below_step HB.out hw18); replace HG := Aside0.mk (Kd.C_below HG.out hw18); replace hx0 := cell_move hx0 (fun hlt => hw18.block _ hlt); replace hx1 := cell_move hx1 (fun hlt => hw18.block _ hlt); replace HEL := Aside0.mk (Kd.C_below HEL.out hw18); replace HGS := Aside0.mk (Kd.C_below HGS.out hw18); replace hs0 := cell_move hs0 (fun hlt => hw18.block _ hlt); replace hs1 := cell_move hs1 (fun hlt => hw18.block _ hlt); replace HCH := Aside0.mk (Kd.C_below HCH.out hw18); replace HE := Aside0.mk (Kd.C_below HE.out hw18); replace HY := Aside0.mk (Kd.C_below HY.out hw18); replace HZ := Aside0.mk (Kd.C_below HZ.out hw18); clear hb18 hw18)
    refine hK.out _ _ ?_ (fun hHeld => ?_)
    · exact ⟨hx0, hs0, hs1⟩
    clear hK K
    try simp only [Act.put, List.setIfInBounds_toArray, List.set_cons_zero, List.set_cons_succ]
    refine wpAnyH_take (i := 24) (oi := { dst := some 114, op := Op.pick (Operand.tmp 107) (Operand.tmp 113) (Operand.const (Value.bool false)), type := 4, pos := "law.go:51", after := #[{ on := 17, ground := Ground.data }, { on := 23, ground := Ground.data }], guard := none }) (v := ?_) rfl (by kernel_rfl) (by kernel_rfl) (by kernel_rfl) (fun _ _ _ h => h) (Or.inl ⟨by rfl, ?_⟩) (by assumption) ?_
    rotate_left 1
    · (intro w hSw; (try dsimp only at hSw); go_simp; (try with_reducible rfl))
    try simp only [Act.put, List.setIfInBounds_toArray, List.set_cons_zero, List.set_cons_succ]
    refine wpAnyH_take (i := 25) (oi := { dst := some 2, op := Op.assign (Operand.tmp 114), type := 4, pos := "law.go:51", after := #[{ on := 24, ground := Ground.data }, { on := 23, ground := Ground.chain }, { on := 0, ground := Ground.phase }, { on := 1, ground := Ground.phase }, { on := 2, ground := Ground.phase }, { on := 3, ground := Ground.phase }, { on := 4, ground := Ground.phase }, { on := 5, ground := Ground.phase }, { on := 6, ground := Ground.phase }, { on := 7, ground := Ground.phase }, { on := 8, ground := Ground.phase }, { on := 9, ground := Ground.phase }, { on := 10, ground := Ground.phase }, { on := 11, ground := Ground.phase }, { on := 12, ground := Ground.phase }, { on := 13, ground := Ground.phase }, { on := 14, ground := Ground.phase }, { on := 15, ground := Ground.phase }, { on := 16, ground := Ground.phase }, { on := 17, ground := Ground.phase }, { on := 18, ground := Ground.phase }, { on := 19, ground := Ground.phase }, { on := 20, ground := Ground.phase }, { on := 21, ground := Ground.phase }, { on := 22, ground := Ground.phase }, { on := 23, ground := Ground.phase }, { on := 24, ground := Ground.phase }], guard := none }) (v := ?_) rfl (by kernel_rfl) (by kernel_rfl) (by kernel_rfl) (fun _ _ _ h => h) (Or.inl ⟨by rfl, ?_⟩) (by assumption) ?_
    rotate_left 1
    · (intro w hSw; (try dsimp only at hSw); go_simp; (try with_reducible rfl))
    try simp only [Act.put, List.setIfInBounds_toArray, List.set_cons_zero, List.set_cons_succ]
    refine wpAnyH_done (by kernel_rfl) ?_ _
    go_wp2_with fail
    go_ret
    exact ⟨rfl, below_then (below_alloc (Below.refl _ _) _) (by simp) HB.out⟩
end Go.Proofs.Ytmbldnoepjmhhaa.Bs
end
section
/- What the law package's own functions come to: a group that is too large for the reference, or all its elements. -/
namespace Go.Proofs.Ytmbldnoepjmhhaa.QPg
open Go.RowKit Go.Proofs.YtmbldnoepjmhhaaW.PrintWords Go.Proofs.Ytmbldnoepjmhhaa.Plain Go.Proofs.Ytmbldnoepjmhhaa.Pms Go.Proofs.Ytmbldnoepjmhhaa.QRf Go.Proofs.Ytmbldnoepjmhhaa.QCl Go.Proofs.Ytmbldnoepjmhhaa.Bs
variable {n : Nat}
theorem elementsP (hn : n ≤ 20) {S E : List (Pm n)} (hE : E.Pairwise Lt) (hG : ∀ p, p ∈ E ↔ Gen S p) : Ev (fun k => PPg.galoisref23_Elements.f k (n : Int) (S.map Pm.l)) (closeR E) := by
  refine Ev.congr (f := fun k => (Bs.galoisref23_Close.f k (n : Int) (S.map Pm.l)).bind fun t => some (t.1, t.2)) (fun k => rfl) ?_
  exact Ev.bind (closeP hn hE hG) (Ev.now _)
structure Fit (a : Int) (L : List (List Int)) (n : Nat) (S E : List (Pm n)) : Prop where
  deg : a = (n : Int)
  hn : n ≤ 20
  gens : S.map Pm.l = L
  len : S.length ≤ 32
  srt : E.Pairwise Lt
  all : ∀ p, p ∈ E ↔ Gen S p
  few : E.length ≤ 240
theorem large_ev (a : Int) (L : List (List Int)) : ∃ b, Ev (fun k => PPg.galoislaw23_large.f k a L) b ∧ (b = false → chkG a L = 0 → ∃ (n : Nat) (S E : List (Pm n)), Fit a L n S E) := by
  obtain ⟨fb, hf⟩ := galoisref23_Few.ev a L
  have hc := galoisref23_Check.ev a L
  cases fb with
  | false =>
    refine ⟨true, ?_, fun h => by cases h⟩
    refine Ev.congr (f := fun k => (PRf.galoisref23_Few.f k a L).bind fun t => if t = true then ((PRf.galoisref23_Check.f k a L).bind fun t2 => if t2 = 0 then ((PPg.galoisref23_Small.f k a L).bind fun t3 => some (!t3)) else some false) else some true) (fun k => rfl) ?_
    refine Ev.bind hf ?_
    simp only [Bool.false_eq_true, if_false]
    exact Ev.now _
  | true =>
    by_cases h0 : chkG a L = 0
    · obtain ⟨n, S, rfl, hn, rfl, hL⟩ := chkG_to h0
      rw [List.length_map] at hL
      obtain ⟨E, hE, hG⟩ := all_exists hn S
      have hs : Ev (fun k => PPg.galoisref23_Small.f k (n : Int) (S.map Pm.l)) (decide (E.length ≤ 240)) := by
        refine Ev.congr (f := fun k => (PRf.galoisref23_Few.f k (n : Int) (S.map Pm.l)).bind fun t => if t = true then ((PRf.galoisref23_Check.f k (n : Int) (S.map Pm.l)).bind fun t2 => if t2 = 0 then ((PPg.galoisref23_Elements.f k (n : Int) (S.map Pm.l)).bind fun t3 => some t3.2) else some false) else some false) (fun k => rfl) ?_
        refine Ev.bind hf ?_
        simp only [if_true]
        refine Ev.bind hc ?_
        simp only [if_pos h0]
        refine Ev.bind (elementsP hn hE hG) ?_
        have e : (closeR E).2 = decide (E.length ≤ 240) := by
          unfold closeR
          by_cases h : E.length ≤ 240
          · rw [if_pos h, decide_eq_true h]
          · rw [if_neg h, decide_eq_false h]
        rw [e]; exact Ev.now _
      refine ⟨!decide (E.length ≤ 240), ?_, fun h _ => ⟨n, S, E, rfl, hn, rfl, hL, hE, hG, by simpa using h⟩⟩
      refine Ev.congr (f := fun k => (PRf.galoisref23_Few.f k (n : Int) (S.map Pm.l)).bind fun t => if t = true then ((PRf.galoisref23_Check.f k (n : Int) (S.map Pm.l)).bind fun t2 => if t2 = 0 then ((PPg.galoisref23_Small.f k (n : Int) (S.map Pm.l)).bind fun t3 => some (!t3)) else some false) else some true) (fun k => rfl) ?_
      refine Ev.bind hf ?_
      simp only [if_true]
      refine Ev.bind hc ?_
      simp only [if_pos h0]
      exact Ev.bind hs (Ev.now _)
    · refine ⟨false, ?_, fun _ h => absurd h h0⟩
      refine Ev.congr (f := fun k => (PRf.galoisref23_Few.f k a L).bind fun t => if t = true then ((PRf.galoisref23_Check.f k a L).bind fun t2 => if t2 = 0 then ((PPg.galoisref23_Small.f k a L).bind fun t3 => some (!t3)) else some false) else some true) (fun k => rfl) ?_
      refine Ev.bind hf ?_
      simp only [if_true]
      refine Ev.bind hc ?_
      simp only [if_neg h0]
      exact Ev.now _
end Go.Proofs.Ytmbldnoepjmhhaa.QPg
end
section
/- What the reference's Points, in, Fixing and Keeping come to. -/
namespace Go.Proofs.Ytmbldnoepjmhhaa.QFix
open Go.RowKit Go.Proofs.YtmbldnoepjmhhaaW.PrintWords Go.Proofs.Ytmbldnoepjmhhaa.Plain Go.Proofs.Ytmbldnoepjmhhaa.Pms Go.Proofs.Ytmbldnoepjmhhaa.QRf Go.Proofs.Ytmbldnoepjmhhaa.QCl Go.Proofs.Ytmbldnoepjmhhaa.Bs Go.Proofs.Ytmbldnoepjmhhaa.PRf
def fixB (p P : List Int) : Bool := decide (∀ x ∈ P, rd p x = x)
section
variable {all : List (List Int)} {P : List Int} {a : Int}
theorem fix_l1 (hP : ∀ x ∈ P, 0 ≤ x ∧ x < a) (hl : P.length < 4611686018427387904) (hal : all.length ≤ 100000) {j : Nat} (hj : j < all.length) {p : List Int} (hp : rd_L1 all (j : Int) = p) (hpl : (p.length : Int) = a) {out : List (List Int)} (ho : out.length ≤ j) {v : List (List Int)} :
    ∀ (d i : Nat) (b : Bool), P.length - i = d → i ≤ P.length → Ev (fun k => galoisref23_Fixing.l0 k all P (if (b && fixB p (P.drop i)) = true then out ++ [p] else out) ((j + 1 : Nat) : Int)) v → Ev (fun k => galoisref23_Fixing.l1 k all P out (j : Int) b (i : Int)) v := by
  intro d
  induction d with
  | zero =>
    intro i b hd hi hv
    have e : P.drop i = [] := List.drop_eq_nil_of_le (by omega)
    refine Ev.step (fun k => ?_) hv
    simp only [galoisref23_Fixing.l1]
    rw [if_neg (by omega), e, show fixB p [] = true from decide_eq_true (fun x hx => by cases hx), Bool.and_true]
    cases b with
    | true => rw [if_pos rfl, if_pos rfl, if_pos (by omega), if_pos (by omega), if_pos (by omega), hp, wrap_nat (by omega)]
    | false => rw [if_neg (by decide), if_neg (by decide), wrap_nat (by omega)]
  | succ d ih =>
    intro i b hd hi hv
    have hlt : i < P.length := by omega
    have e : P.drop i = P[i] :: P.drop (i + 1) := List.drop_eq_getElem_cons hlt
    have hx := hP P[i] (List.getElem_mem hlt)
    have hri : rd P (i : Int) = P[i] := rd_get P i hlt
    refine Ev.step (f := fun k => galoisref23_Fixing.l1 k all P out (j : Int) (b && (rd p P[i] == P[i])) ((i + 1 : Nat) : Int)) (fun k => ?_) (ih (i + 1) _ (by omega) (by omega) ?_)
    · simp only [galoisref23_Fixing.l1]
      rw [if_pos (by omega)]
      cases b with
      | true => rw [if_pos rfl, if_pos (by omega), if_pos (by omega), if_pos (by omega), hri, hp, if_pos hx.1, if_pos (by omega), wrap_nat (by omega), Bool.true_and]
      | false => rw [if_neg (by decide), wrap_nat (by omega), Bool.false_and]
    · rw [show ((b && (rd p P[i] == P[i])) && fixB p (P.drop (i + 1))) = (b && fixB p (P.drop i)) from by
        rw [Bool.and_assoc, e]
        congr 1
        unfold fixB
        rw [Bool.eq_iff_iff, Bool.and_eq_true, beq_iff_eq, decide_eq_true_iff, decide_eq_true_iff, List.forall_mem_cons]]
      exact hv
theorem fix_l0 (hP : ∀ x ∈ P, 0 ≤ x ∧ x < a) (hl : P.length < 4611686018427387904) (hal : all.length ≤ 100000) (hpl : ∀ p ∈ all, (p.length : Int) = a) : ∀ (d j : Nat) (out : List (List Int)), all.length - j = d → j ≤ all.length → out.length ≤ j → Ev (fun k => galoisref23_Fixing.l0 k all P out (j : Int)) (out ++ (all.drop j).filter fun p => fixB p P) := by
  intro d
  induction d with
  | zero =>
    intro j out hd hj ho
    rw [List.drop_eq_nil_of_le (by omega), List.filter_nil, List.append_nil]
    refine Ev.step (f := fun _ => some out) (fun k => ?_) (Ev.now _)
    simp only [galoisref23_Fixing.l0]
    rw [if_neg (by omega)]
  | succ d ih =>
    intro j out hd hj ho
    have hlt : j < all.length := by omega
    have e : all.drop j = all[j] :: all.drop (j + 1) := List.drop_eq_getElem_cons hlt
    have hp : rd_L1 all (j : Int) = all[j] := by unfold rd_L1; rw [Int.toNat_natCast, List.getD_eq_getElem?_getD, List.getElem?_eq_getElem hlt]; rfl
    refine Ev.step (f := fun k => galoisref23_Fixing.l1 k all P out (j : Int) true ((0 : Nat) : Int)) (fun k => ?_) (fix_l1 hP hl hal hlt hp (hpl _ (List.getElem_mem hlt)) ho P.length 0 true rfl (Nat.zero_le _) ?_)
    · simp only [galoisref23_Fixing.l0]
      rw [if_pos (by omega)]
      rfl
    · rw [List.drop_zero, Bool.true_and, e]
      cases hk : fixB all[j] P with
      | true =>
        rw [if_pos rfl, List.filter_cons_of_pos (by exact hk)]
        have := ih (j + 1) (out ++ [all[j]]) (by omega) (by omega) (by rw [List.length_append, List.length_singleton]; omega)
        rwa [List.append_assoc] at this
      | false =>
        rw [if_neg (by decide), List.filter_cons_of_neg (by simp [hk])]
        exact ih (j + 1) out (by omega) (by omega) (by omega)
theorem fix_ev (hP : ∀ x ∈ P, 0 ≤ x ∧ x < a) (hl : P.length < 4611686018427387904) (hal : all.length ≤ 100000) (hpl : ∀ p ∈ all, (p.length : Int) = a) : Ev (fun k => galoisref23_Fixing.f k all P) (all.filter fun p => fixB p P) := by
  have := fix_l0 hP hl hal hpl all.length 0 [] rfl (Nat.zero_le _) (Nat.zero_le _)
  rwa [List.drop_zero, List.nil_append] at this
end
end Go.Proofs.Ytmbldnoepjmhhaa.QFix
end
section
/- What the reference's Greedy comes to. -/
namespace Go.Proofs.Ytmbldnoepjmhhaa.QGreed
open Go.RowKit Go.Proofs.YtmbldnoepjmhhaaW.PrintWords Go.Proofs.Ytmbldnoepjmhhaa.Plain Go.Proofs.Ytmbldnoepjmhhaa.Pms Go.Proofs.Ytmbldnoepjmhhaa.QRf Go.Proofs.Ytmbldnoepjmhhaa.QCl Go.Proofs.Ytmbldnoepjmhhaa.Bs
variable {n : Nat}
theorem mapl_getG (L : List (Pm n)) (i : Nat) (h : i < L.length) : PGr.rd_L1 (L.map Pm.l) (i : Int) = L[i].l := by
  unfold PGr.rd_L1
  rw [Int.toNat_natCast, List.getD_eq_getElem?_getD, List.getElem?_map, List.getElem?_eq_getElem h]
  rfl
theorem greedy_l (hn : n ≤ 20) {T E : List (Pm n)} (hE : E.Pairwise Lt) (hG : ∀ p, p ∈ E ↔ Gen T p) (hl : E.length ≤ 240) (F : List (Pm n)) (hFE : ∀ x ∈ F, x ∈ E) (hFl : F.length ≤ 100000) : ∀ (d i : Nat) (H out : List (Pm n)), F.length - i = d → i ≤ F.length → out.length ≤ i → (∀ x ∈ out, x ∈ E) → H.Pairwise Lt → (∀ p, p ∈ H ↔ Gen out p) →
    Ev (fun k => PGr.galoisref23_Greedy.l0 k (n : Int) (F.map Pm.l) (H.map Pm.l) (i : Int) (n : Int) (out.map Pm.l)) ((n : Int), (greedy (F.drop i) out).map Pm.l) := by
  intro d
  induction d with
  | zero =>
    intro i H out hd hi ho hoE hH hHG
    rw [List.drop_eq_nil_of_le (by omega), greedy]
    refine Ev.step (f := fun _ => some ((n : Int), out.map Pm.l)) (fun k => ?_) (Ev.now _)
    simp only [PGr.galoisref23_Greedy.l0]
    rw [if_neg (by rw [List.length_map]; omega)]
  | succ d ih =>
    intro i H out hd hi ho hoE hH hHG
    have hlt : i < F.length := by omega
    have e : F.drop i = F[i] :: F.drop (i + 1) := List.drop_eq_getElem_cons hlt
    have hsub : ∀ (S : List (Pm n)), (∀ x ∈ S, x ∈ E) → ∀ (K : List (Pm n)), K.Pairwise Lt → (∀ p, p ∈ K ↔ Gen S p) → K.length ≤ 240 := fun S hS K hK hKG => Nat.le_trans (List.Nodup.length_le_of_subset (sorted_nodup hK) (fun x hx => (hG x).2 (Gen.mono (fun s hs => (hG s).1 (hS s hs)) ((hKG x).1 hx)))) hl
    have hHl := hsub out hoE H hH hHG
    have hhas := hasP hn hH (by omega) F[i]
    have hstep : ∀ k, PGr.galoisref23_Greedy.l0 (k + 1) (n : Int) (F.map Pm.l) (H.map Pm.l) (i : Int) (n : Int) (out.map Pm.l) = (PRf.galoisref23_Has.f k (H.map Pm.l) F[i].l).bind fun t => if t = true then PGr.galoisref23_Greedy.l0 k (n : Int) (F.map Pm.l) (H.map Pm.l) ((i + 1 : Nat) : Int) (n : Int) (out.map Pm.l) else (Bs.galoisref23_Close.f k (n : Int) ((out ++ [F[i]]).map Pm.l)).bind fun bt => PGr.galoisref23_Greedy.l0 k (n : Int) (F.map Pm.l) bt.1 ((i + 1 : Nat) : Int) (n : Int) ((out ++ [F[i]]).map Pm.l) := by
      intro k
      simp only [PGr.galoisref23_Greedy.l0]
      rw [if_pos (by rw [List.length_map]; omega), if_pos (by omega), mapl_getG F i hlt, wrap_nat (by omega)]
      congr 1
      funext t
      by_cases ht : t = true
      · rw [if_pos ht, if_pos ht]
      · rw [if_neg ht, if_neg ht, if_pos (by rw [List.length_map]; omega), Option.bind_some, List.map_append]
        rfl
    refine Ev.step hstep (Ev.bind hhas ?_)
    by_cases hm : F[i] ∈ H
    · have hg := (hHG _).1 hm
      rw [e, greedy, if_pos hg]
      simp only [decide_eq_true hm, if_true]
      exact ih (i + 1) H out (by omega) (by omega) (by omega) hoE hH hHG
    · have hg : ¬ Gen out F[i] := fun h => hm ((hHG _).2 h)
      rw [e, greedy, if_neg hg]
      simp only [decide_eq_false hm, Bool.false_eq_true, if_false]
      have hoE2 : ∀ x ∈ out ++ [F[i]], x ∈ E := fun x hx => (List.mem_append.1 hx).elim (hoE x) (fun h => by rw [List.mem_singleton] at h; subst h; exact hFE _ (List.getElem_mem hlt))
      obtain ⟨K, hK, hKG⟩ := all_exists hn (out ++ [F[i]])
      have hKl := hsub _ hoE2 K hK hKG
      refine Ev.bind (closeP hn hK hKG) ?_
      unfold closeR
      simp only [if_pos hKl]
      exact ih (i + 1) K (out ++ [F[i]]) (by omega) (by omega) (by rw [List.length_append, List.length_singleton]; omega) hoE2 hK hKG
theorem greedyP (hn : n ≤ 20) {T E : List (Pm n)} (hE : E.Pairwise Lt) (hG : ∀ p, p ∈ E ↔ Gen T p) (hl : E.length ≤ 240) : Ev (fun k => PGr.galoisref23_Greedy.f k (n : Int) (E.map Pm.l)) ((n : Int), (greedy E []).map Pm.l) := by
  refine Ev.congr (f := fun k => (PRf.galoisref22_Identity.f k (n : Int)).bind fun t => PGr.galoisref23_Greedy.l0 k (n : Int) (E.map Pm.l) [t] ((0 : Nat) : Int) (n : Int) (([] : List (Pm n)).map Pm.l)) (fun k => rfl) ?_
  refine Ev.bind (identP hn) ?_
  have := greedy_l hn hE hG hl E (fun x h => h) (by omega) E.length 0 [1] [] rfl (Nat.zero_le _) (Nat.zero_le _) (fun x h => by cases h) (List.pairwise_singleton _ _) (fun p => by rw [List.mem_singleton]; exact ⟨fun h => h ▸ Gen.one _, Gen.nil⟩)
  rwa [List.drop_zero] at this
theorem samePermsP (hn : n ≤ 20) (A B : List (Pm n)) (hl : A.length = B.length) (hs : A.length < 100000) : Ev (fun k => PRf.galoisref22_SamePerms.f k (A.map Pm.l) (B.map Pm.l)) (decide (A = B)) := by
  have key : ∀ d i, i + d = A.length → Ev (fun k => PRf.galoisref22_SamePerms.l0 k (A.map Pm.l) (B.map Pm.l) (i : Int)) (decide (A.drop i = B.drop i)) := by
    intro d
    induction d with
    | zero =>
      intro i hi
      rw [List.drop_eq_nil_of_le (by omega), List.drop_eq_nil_of_le (by omega)]
      refine Ev.step (f := fun _ => some true) (fun k => ?_) (Ev.now _)
      simp only [PRf.galoisref22_SamePerms.l0, List.length_map]
      rw [if_neg (by omega)]
    | succ d ih =>
      intro i hi
      have ha : i < A.length := by omega
      have hb : i < B.length := by omega
      rw [List.drop_eq_getElem_cons ha, List.drop_eq_getElem_cons hb]
      refine Ev.step (f := fun k => (PRf.galoisref22_Same.f k A[i].l B[i].l).bind fun t => if t = true then PRf.galoisref22_SamePerms.l0 k (A.map Pm.l) (B.map Pm.l) ((i + 1 : Nat) : Int) else some false) (fun k => ?_) ?_
      · simp only [PRf.galoisref22_SamePerms.l0, List.length_map]
        rw [if_pos (by omega), if_pos (by omega), if_pos (by omega), mapl_get A i ha, mapl_get B i hb, wrap_nat (by omega)]
      · refine Ev.bind (sameP _ _ hn) ?_
        by_cases e : A[i] = B[i]
        · simp only [decide_eq_true e, if_true]
          rw [show decide (A[i] :: A.drop (i + 1) = B[i] :: B.drop (i + 1)) = decide (A.drop (i + 1) = B.drop (i + 1)) by rw [e]; simp only [List.cons.injEq, true_and]]
          exact ih (i + 1) (by omega)
        · simp only [decide_eq_false e, Bool.false_eq_true, if_false]
          rw [show decide (A[i] :: A.drop (i + 1) = B[i] :: B.drop (i + 1)) = false by simp only [List.cons.injEq, e, false_and, decide_false]]
          exact Ev.now _
  have := key A.length 0 (by omega)
  rw [List.drop_zero, List.drop_zero] at this
  refine Ev.congr (fun k => ?_) this
  unfold PRf.galoisref22_SamePerms.f
  rw [List.length_map, List.length_map, if_pos (by omega)]
  rfl
theorem equalP (hn : n ≤ 20) (a : Int) (A : List (Pm n)) (hs : A.length < 100000) : Ev (fun k => PRf.galoisref23_Equal.f k a (A.map Pm.l) a (A.map Pm.l)) true := by
  refine Ev.congr (f := fun k => (PRf.galoisref22_SamePerms.f k (A.map Pm.l) (A.map Pm.l)).bind fun t => some t) (fun k => by unfold PRf.galoisref23_Equal.f; rw [if_pos rfl]) ?_
  have h := samePermsP hn A A rfl hs
  rw [show decide (A = A) = true from decide_eq_true rfl] at h
  exact Ev.bind h (Ev.now _)
end Go.Proofs.Ytmbldnoepjmhhaa.QGreed
end
section
/- PermgroupForms: the law, its walk by values joined with the laws of chains. -/
namespace Go.Proofs.Ytmbldnoepjmhhaa.Bs
open Go.RowKit Go.Proofs.YtmbldnoepjmhhaaW.PrintWords Go.Proofs.YtmbldnoepjmhhaaW.PrintLast Go.Proofs.YtmbldnoepjmhhaaW.PrintMore Go.Proofs.Ytmbldnoepjmhhaa.Plain Go.Proofs.Ytmbldnoepjmhhaa.PBs Go.Proofs.Ytmbldnoepjmhhaa.PAll Go.Proofs.Ytmbldnoepjmhhaa.Pms Go.Proofs.Ytmbldnoepjmhhaa.QStab Go.Proofs.Ytmbldnoepjmhhaa.QFix Go.Proofs.Ytmbldnoepjmhhaa.QGreed Go.Proofs.Ytmbldnoepjmhhaa.QGr Go.Proofs.Ytmbldnoepjmhhaa.QCl Go.Proofs.Ytmbldnoepjmhhaa.QPg
variable {n : Nat}
theorem natl_eq : ∀ (a b : List Nat), a.Pairwise (· < ·) → b.Pairwise (· < ·) → (∀ x, x ∈ a ↔ x ∈ b) → a = b
  | [], [], _, _, _ => rfl
  | [], y :: s, _, _, h => absurd ((h y).2 List.mem_cons_self) (fun h => by cases h)
  | x :: r, [], _, _, h => absurd ((h x).1 List.mem_cons_self) (fun h => by cases h)
  | x :: r, y :: s, ha, hb, h => by
    obtain ⟨a1, a2⟩ := List.pairwise_cons.1 ha
    obtain ⟨b1, b2⟩ := List.pairwise_cons.1 hb
    have e : x = y := by
      rcases List.mem_cons.1 ((h x).1 List.mem_cons_self) with e | e
      · exact e
      · rcases List.mem_cons.1 ((h y).2 List.mem_cons_self) with e2 | e2
        · exact e2.symm
        · have := b1 x e; have := a1 y e2; omega
    subst e
    rw [natl_eq r s a2 b2 (fun z => ?_)]
    constructor
    · intro hz
      rcases List.mem_cons.1 ((h z).1 (List.mem_cons_of_mem _ hz)) with e | e
      · subst e; have := a1 z hz; omega
      · exact e
    · intro hz
      rcases List.mem_cons.1 ((h z).2 (List.mem_cons_of_mem _ hz)) with e | e
      · subst e; have := b1 z hz; omega
      · exact e
theorem chIn_true (b q : Int) : ∀ (l : List (List Int)) (o : List Int) (ws : List (List Int)), chIn b q l true o ws = some (o, ws)
  | [], o, ws => rfl
  | p :: r, o, ws => by rw [chIn, if_neg (fun h => by cases h.2), chIn_true b q r o ws]
theorem chIn_none (b q : Int) : ∀ (l : List (List Int)) (o : List Int) (ws : List (List Int)), (∀ p ∈ l, rd p b ≠ q) → chIn b q l false o ws = some (o, ws)
  | [], o, ws, _ => rfl
  | p :: r, o, ws, h => by rw [chIn, if_neg (fun e => h p List.mem_cons_self e.1), chIn_none b q r o ws (fun x hx => h x (List.mem_cons_of_mem _ hx))]
theorem chIn_first (b q : Int) : ∀ (l : List (List Int)) (o : List Int) (ws : List (List Int)) (x : List Int) (r : List (List Int)), o.length < 1000 → ws.length < 1000 → (l.filter fun p => decide (rd p b = q)) = x :: r → chIn b q l false o ws = some (o ++ [q], ws ++ [x])
  | [], o, ws, x, r, _, _, h => by simp at h
  | p :: s, o, ws, x, r, ho, hw, h => by
    rw [chIn]
    by_cases e : rd p b = q
    · rw [List.filter_cons, if_pos (decide_eq_true e)] at h
      obtain ⟨e1, _⟩ := List.cons.inj h
      subst e1
      rw [if_pos ⟨e, rfl⟩, if_pos ⟨ho, hw⟩, chIn_true]
    · rw [List.filter_cons, if_neg (by rw [decide_eq_true_iff]; exact e)] at h
      rw [if_neg (fun h => e h.1), chIn_first b q s o ws x r ho hw h]
def EK (A : AC n) (k : Nat) : List (Pm n) := El A (n - k) k 1
theorem EK_mem {A : AC n} (h : Inv A) {k : Nat} (hk : k ≤ n) (p : Pm n) : p ∈ EK A k ↔ In A k p := by
  unfold EK
  rw [El.mem h (n - k) k 1 p rfl hk]
  constructor
  · rintro ⟨g, hg, rfl⟩; rwa [Pm.mul_one]
  · intro hp; exact ⟨p, hp, (Pm.mul_one p).symm⟩
theorem EK_sorted {A : AC n} (h : Inv A) {k : Nat} (hk : k ≤ n) : (EK A k).Pairwise Lt := El.sorted h (n - k) k 1 rfl hk
theorem EK_next {A : AC n} (h : Inv A) {k : Nat} (hk : k < n) : (EK A k).filter (fun p => decide (p.ap k = k)) = EK A (k + 1) := by
  refine sorted_eq ((EK_sorted h (Nat.le_of_lt hk)).filter _) (EK_sorted h hk) (fun p => ?_)
  rw [List.mem_filter, decide_eq_true_iff, EK_mem h (Nat.le_of_lt hk), EK_mem h hk, In.step hk]
  constructor
  · rintro ⟨⟨t, ht, hp⟩, e⟩
    rw [e, h.base k hk] at ht
    obtain rfl := Option.some.inj ht
    rwa [Pm.mul_one_inv] at hp
  · intro hp
    have hf := In.fix h (n - (k + 1)) (k + 1) p rfl hp
    have e : p.ap k = k := hf k (Nat.lt_succ_self k) hk
    exact ⟨⟨1, by rw [e]; exact h.base k hk, by rwa [Pm.mul_one_inv]⟩, e⟩
theorem EK_at {A : AC n} (h : Inv A) {k y : Nat} (hk : k < n) {t : Pm n} (ht : A.T k y = some t) : (EK A k).filter (fun p => decide (p.ap k = y)) = El A (n - (k + 1)) (k + 1) t := by
  refine sorted_eq ((EK_sorted h (Nat.le_of_lt hk)).filter _) (El.sorted h _ _ t rfl hk) (fun p => ?_)
  rw [List.mem_filter, decide_eq_true_iff, EK_mem h (Nat.le_of_lt hk), In.step hk, El.mem h _ _ t p rfl hk]
  constructor
  · rintro ⟨⟨s, hs, hp⟩, e⟩
    rw [e, ht] at hs
    obtain rfl := Option.some.inj hs
    exact ⟨p * t⁻¹, hp, by rw [Pm.mul_assoc, Pm.inv_mul, Pm.mul_one]⟩
  · rintro ⟨g, hg, rfl⟩
    have hf := In.fix h (n - (k + 1)) (k + 1) g rfl hg
    have e1 : g.ap k = k := hf k (Nat.lt_succ_self k) hk
    have e2 : t.ap k = y := (h.word k y t ht).2.2.1
    have e : (g * t).ap k = y := by rw [Pm.mul_ap _ _ hk, e1, e2]
    exact ⟨⟨t, by rw [e]; exact ht, by rw [Pm.mul_assoc, Pm.mul_inv, Pm.mul_one]; exact hg⟩, e⟩
theorem EK_none {A : AC n} (h : Inv A) {k y : Nat} (hk : k < n) (ht : A.T k y = none) : ∀ p ∈ EK A k, p.ap k ≠ y := by
  intro p hp e
  obtain ⟨t, hs, _⟩ := (In.step hk).1 ((EK_mem h (Nat.le_of_lt hk) p).1 hp)
  rw [e, ht] at hs
  cases hs
theorem rd_filter (L : List (Pm n)) {k : Nat} (hk : k < n) (y : Nat) : (L.map Pm.l).filter (fun p => decide (rd p (k : Int) = (y : Int))) = (L.filter fun p => decide (p.ap k = y)).map Pm.l := by
  rw [List.filter_map]
  congr 1
  refine List.filter_congr (fun p _ => ?_)
  show decide (rd p.l (k : Int) = (y : Int)) = decide (p.ap k = y)
  rw [rd_ap p hk, Bool.eq_iff_iff, decide_eq_true_iff, decide_eq_true_iff]
  omega
def wd (A : AC n) (k y : Nat) : List Int := (lst A (k + 1) (tt A k y)).l
theorem El_head {A : AC n} (h : Inv A) (d k : Nat) (t : Pm n) (hd : n - k = d) (hk : k ≤ n) : ∃ r, El A d k t = (El A d k t).headD 1 :: r := by
  have hm : (1 : Pm n) * t ∈ El A d k t := (El.mem h d k t _ hd hk).2 ⟨1, In.one h d k hd, rfl⟩
  cases e : El A d k t with
  | nil => rw [e] at hm; cases hm
  | cons x r => exact ⟨r, rfl⟩
theorem chMid_spec {A : AC n} (h : Inv A) {k : Nat} (hk : k < n) : ∀ (l : List Nat) (o : List Int) (ws : List (List Int)), o.length + l.length < 1000 → ws.length + l.length < 1000 →
    chMid (k : Int) ((EK A k).map Pm.l) l o ws = some (o ++ ints (l.filter fun y => decide (y ∈ A.O k)), ws ++ (l.filter fun y => decide (y ∈ A.O k)).map (wd A k))
  | [], o, ws, _, _ => by rw [chMid]; simp [ints]
  | y :: r, o, ws, ho, hw => by
    rw [List.length_cons] at ho hw
    rw [chMid]
    by_cases hy : y ∈ A.O k
    · cases ht : A.T k y with
      | none => exact absurd ht ((h.orb k y hk).1 hy)
      | some t =>
        obtain ⟨s, hs⟩ := El_head h (n - (k + 1)) (k + 1) t rfl hk
        have hf := rd_filter (EK A k) hk y
        rw [EK_at h hk ht, hs, List.map_cons] at hf
        have hwd : wd A k y = ((El A (n - (k + 1)) (k + 1) t).headD 1).l := by unfold wd lst tt; rw [ht]; rfl
        rw [chIn_first (k : Int) (y : Int) _ o ws _ _ (by omega) (by omega) hf, Option.bind_some, chMid_spec h hk r _ _ (by rw [List.length_append, List.length_singleton]; omega) (by rw [List.length_append, List.length_singleton]; omega), List.filter_cons, if_pos (decide_eq_true hy), List.append_assoc, List.append_assoc, ← hwd]
        rfl
    · have ht : A.T k y = none := by
        cases ht : A.T k y with
        | none => rfl
        | some t => exact absurd ((h.orb k y hk).2 (by rw [ht]; simp)) hy
      rw [chIn_none (k : Int) (y : Int) _ o ws (fun p hp e => by
        obtain ⟨q, hq, rfl⟩ := List.mem_map.1 hp
        rw [rd_ap q hk] at e
        exact EK_none h hk ht q hq (by omega)), Option.bind_some, chMid_spec h hk r o ws (by omega) (by omega), List.filter_cons, if_neg (by rw [decide_eq_true_iff]; exact hy)]
theorem range_orb {A : AC n} (h : Inv A) {k : Nat} (hk : k < n) : (List.range n).filter (fun y => decide (y ∈ A.O k)) = sortO A k 1 := by
  refine natl_eq _ _ (List.Pairwise.filter _ List.pairwise_lt_range) ?_ (fun x => ?_)
  · have hnd : (sortO A k 1).Nodup := (sortO_perm A k 1).nodup_iff.2 (h.nodup k hk)
    have hs := sortO_sorted A k 1
    refine (hs.and (List.nodup_iff_pairwise_ne.1 hnd)).imp_of_mem (fun {x y} hx hy hxy => ?_)
    have lx := orb_lt h hk ((sortO_perm A k 1).subset hx)
    have ly := orb_lt h hk ((sortO_perm A k 1).subset hy)
    have h1 := hxy.1
    rw [Pm.one_ap lx, Pm.one_ap ly] at h1
    have h2 := hxy.2
    omega
  · rw [List.mem_filter, List.mem_range, decide_eq_true_iff, (sortO_perm A k 1).mem_iff]
    exact ⟨fun h => h.2, fun hx => ⟨orb_lt h hk hx, hx⟩⟩
theorem EK_len {A : AC n} (h : Inv A) : ∀ k, k ≤ n → (EK A k).length ≤ (EK A 0).length
  | 0, _ => Nat.le_refl _
  | k + 1, hk => by
    rw [← EK_next h hk]
    exact Nat.le_trans (List.length_filter_le _ _) (EK_len h k (Nat.le_of_lt hk))
theorem chOut_spec {A : AC n} (hn : n ≤ 20) (h : Inv A) (hl : (EK A 0).length ≤ 240) : ∀ (d k : Nat) (out : List S71), n - k = d → k ≤ n → out.length ≤ k → Ev (fun q => chOut q n ((List.range n).drop k) ((EK A k).map Pm.l) out) (out ++ lvs A d k)
  | 0, k, out, hd, hk, ho => by
    rw [List.drop_eq_nil_of_le (by rw [List.length_range]; omega), lvs, List.append_nil]
    exact Ev.now _
  | d + 1, k, out, hd, hk, ho => by
    have hkn : k < n := by omega
    have hl2 := EK_len h k hk
    have hg : (∀ p ∈ (EK A k).map Pm.l, k < p.length) ∧ ((EK A k).map Pm.l).length ≤ 100000 ∧ out.length < 1000 := by
      refine ⟨fun p hp => ?_, by rw [List.length_map]; omega, by omega⟩
      obtain ⟨q, _, rfl⟩ := List.mem_map.1 hp
      rw [q.len]; exact hkn
    have hmid := chMid_spec h hkn (List.range n) [] [] (by rw [List.length_range, List.length_nil]; omega) (by rw [List.length_range, List.length_nil]; omega)
    rw [range_orb h hkn, List.nil_append, List.nil_append] at hmid
    have hP : ∀ x ∈ [(k : Int)], 0 ≤ x ∧ x < (n : Int) := fun x hx => by rw [List.mem_singleton] at hx; subst hx; omega
    have hfix := fix_ev (a := (n : Int)) (all := (EK A k).map Pm.l) (P := [(k : Int)]) hP (by simp) (by rw [List.length_map]; omega) (fun p hp => by
      obtain ⟨q, _, rfl⟩ := List.mem_map.1 hp
      rw [q.len])
    have hfil : ((EK A k).map Pm.l).filter (fun p => fixB p [(k : Int)]) = (EK A (k + 1)).map Pm.l := by
      rw [← EK_next h hkn, ← rd_filter (EK A k) hkn k]
      refine List.filter_congr (fun p _ => ?_)
      unfold fixB
      rw [Bool.eq_iff_iff, decide_eq_true_iff, decide_eq_true_iff]
      exact ⟨fun h => h _ (List.mem_singleton.2 rfl), fun h x hx => by rw [List.mem_singleton] at hx; subst hx; exact h⟩
    rw [hfil] at hfix
    have hlen : (ints (sortO A k 1)).length = (A.O k).length := by unfold ints; rw [List.length_map]; exact (sortO_perm A k 1).length_eq
    rw [List.drop_eq_getElem_cons (by rw [List.length_range]; exact hkn), List.getElem_range]
    refine Ev.congr (f := fun q => (PRf.galoisref23_Fixing.f q ((EK A k).map Pm.l) [(k : Int)]).bind fun all' => chOut q n ((List.range n).drop (k + 1)) all' (if 1 < (ints (sortO A k 1)).length then out ++ [⟨(k : Int), ints (sortO A k 1), (sortO A k 1).map (wd A k)⟩] else out)) (fun q => by rw [chOut, if_pos hg, hmid]; rfl) ?_
    refine Ev.bind hfix ?_
    rw [lvs, hlen]
    by_cases h2 : (A.O k).length < 2
    · rw [if_pos h2, if_neg (by omega)]
      exact chOut_spec hn h hl d (k + 1) out (by omega) (by omega) (by omega)
    · rw [if_neg h2, if_pos (by omega)]
      have := chOut_spec hn h hl d (k + 1) (out ++ [⟨(k : Int), ints (sortO A k 1), (sortO A k 1).map (wd A k)⟩]) (by omega) (by omega) (by rw [List.length_append, List.length_singleton]; omega)
      rw [List.append_assoc] at this
      exact this
theorem chain_refP {A : AC n} (hn : n ≤ 20) (h : Inv A) (hl : (EK A 0).length ≤ 240) : Ev (fun q => galoisref23_Chain.f q (n : Int) ((EK A 0).map Pm.l)) (lvs A n 0) := by
  have := chOut_spec hn h hl n 0 [] rfl (Nat.zero_le _) (Nat.zero_le _)
  rw [List.drop_zero, List.nil_append] at this
  refine Ev.congr (fun q => ?_) this
  unfold galoisref23_Chain.f
  rw [if_pos ⟨Int.natCast_nonneg _, by omega⟩, Int.toNat_natCast]
theorem sameLv {A : AC n} (hn : n ≤ 20) (h : Inv A) (r : List S71) (hr : ∀ q ∈ r, ∃ j, j < n ∧ q = lvAt A j) (hrl : r.length < 100000) : ∀ (d i : Nat), r.length - i = d → i ≤ r.length → Ev (fun k => PSc.galoisref23_SameChains.l0 k r r (i : Int)) true
  | 0, i, hd, hi => by
    refine Ev.step (f := fun _ => some true) (fun k => ?_) (Ev.now _)
    simp only [PSc.galoisref23_SameChains.l0]
    rw [if_neg (by omega)]
  | d + 1, i, hd, hi => by
    have hlt : i < r.length := by omega
    have hri : rd_T71 r (i : Int) = r[i] := by
      unfold rd_T71
      rw [Int.toNat_natCast, List.getD_eq_getElem?_getD, List.getElem?_eq_getElem hlt]; rfl
    obtain ⟨j, hj, hq⟩ := hr r[i] (List.getElem_mem hlt)
    have hlen : (r[i]).f1.length ≤ n := by
      rw [hq]
      show (ints (sortO A j 1)).length ≤ n
      unfold ints
      rw [List.length_map, (sortO_perm A j 1).length_eq]
      exact orb_len h hj
    have hws : (r[i]).f2 = ((sortO A j 1).map fun y => lst A (j + 1) (tt A j y)).map Pm.l := by
      rw [hq]
      show (sortO A j 1).map _ = _
      rw [List.map_map]; rfl
    have hwl : ((sortO A j 1).map fun y => lst A (j + 1) (tt A j y)).length < 100000 := by
      rw [List.length_map, (sortO_perm A j 1).length_eq]
      have := orb_len h hj
      omega
    refine Ev.step (f := fun k => (PRf.galoisref22_Same.f k (r[i]).f1 (r[i]).f1).bind fun t => if t = true then ((PRf.galoisref22_SamePerms.f k (r[i]).f2 (r[i]).f2).bind fun t2 => if t2 = true then PSc.galoisref23_SameChains.l0 k r r ((i + 1 : Nat) : Int) else some false) else some false) (fun k => ?_) ?_
    · simp only [PSc.galoisref23_SameChains.l0]
      rw [if_pos (by omega), if_pos (by omega), if_pos (by omega), hri, if_pos trivial, wrap_nat (by omega)]
    · refine Ev.bind (QRf.galoisref22_Same.ev _ _ (by omega)) ?_
      rw [decide_eq_true rfl]
      simp only [if_true]
      rw [hws]
      refine Ev.bind (samePermsP hn _ _ rfl hwl) ?_
      rw [decide_eq_true rfl]
      simp only [if_true]
      exact sameLv hn h r hr hrl d (i + 1) (by omega) (by omega)
theorem lvs_memF {A : AC n} : ∀ (d k : Nat) (q : S71), n - k = d → q ∈ lvs A d k → ∃ j, j < n ∧ q = lvAt A j
  | 0, k, q, hd, h => by cases h
  | d + 1, k, q, hd, h => by
    rw [lvs] at h
    by_cases hl : (A.O k).length < 2
    · rw [if_pos hl] at h
      exact lvs_memF d (k + 1) q (by omega) h
    · rw [if_neg hl] at h
      rcases List.mem_cons.1 h with h | h
      · exact ⟨k, by omega, h⟩
      · exact lvs_memF d (k + 1) q (by omega) h
theorem lvs_lenF {A : AC n} : ∀ (d k : Nat), (lvs A d k).length ≤ d
  | 0, k => Nat.le_refl _
  | d + 1, k => by
    rw [lvs]
    have := lvs_lenF (A := A) d (k + 1)
    by_cases hl : (A.O k).length < 2
    · rw [if_pos hl]; omega
    · rw [if_neg hl, List.length_cons]; omega
theorem sameChainsP {A : AC n} (hn : n ≤ 20) (h : Inv A) : Ev (fun k => PSc.galoisref23_SameChains.f k (lvs A n 0) (lvs A n 0)) true := by
  have hl := lvs_lenF (A := A) n 0
  refine Ev.congr (f := fun k => PSc.galoisref23_SameChains.l0 k (lvs A n 0) (lvs A n 0) ((0 : Nat) : Int)) (fun k => ?_) (sameLv hn h _ (fun q hq => lvs_memF n 0 q rfl hq) (by omega) _ 0 rfl (Nat.zero_le _))
  unfold PSc.galoisref23_SameChains.f
  rw [if_pos rfl]
  rfl
theorem reduced_ev (hn : n ≤ 20) (S : List (Pm n)) (hS : S.length ≤ 32) {E : List (Pm n)} (hE : E.Pairwise Lt) (hG : ∀ p, p ∈ E ↔ Gen S p) (hl : E.length ≤ 240) : Ev (fun k => PPg.permgroup_Reduced.f k (n : Int) (S.map Pm.l)) ((n : Int), (greedy E []).map Pm.l, 0) := by
  refine Ev.congr (f := fun k => (permgroup_Check.f k (n : Int) (S.map Pm.l)).bind fun e => if e = 0 then ((permgroup_group.f (n : Int) (S.map Pm.l)).bind fun t => some (t.1, t.2.1, t.2.2)) else some (0, ([] : List (List Int)), e)) (fun k => rfl) ?_
  refine Ev.bind (QBs.permgroup_Check.ev _ _) ?_
  rw [chkG_Pm hn S hS]
  simp only [if_true]
  rw [group_val hn S hE hG (by omega)]
  exact Ev.now _
theorem elements_ev (hn : n ≤ 20) (S : List (Pm n)) (hS : S.length ≤ 32) {E : List (Pm n)} (hE : E.Pairwise Lt) (hG : ∀ p, p ∈ E ↔ Gen S p) (hl : E.length ≤ 240) : Ev (fun k => PPg.permgroup_Elements.f k (n : Int) (S.map Pm.l)) (E.map Pm.l, 0) := by
  refine Ev.congr (f := fun k => (permgroup_Check.f k (n : Int) (S.map Pm.l)).bind fun e => if e = 0 then ((permgroup_elements.f (n : Int) (S.map Pm.l)).bind fun t => some (t.1, t.2)) else some (([] : List (List Int)), e)) (fun k => rfl) ?_
  refine Ev.bind (QBs.permgroup_Check.ev _ _) ?_
  rw [chkG_Pm hn S hS]
  simp only [if_true]
  obtain ⟨A, F, h1, h2, e1, e2, e3, e4⟩ := grp_spec hn S
  have hEF : F = E := sorted_eq e1 hE (fun p => by rw [e2, hG])
  subst hEF
  unfold permgroup_elements.f
  rw [if_pos ⟨Int.natCast_nonneg _, by omega⟩, Int.toNat_natCast, h1, Option.bind_some, e3, if_neg (by omega), e4 (by omega), Option.bind_some]
  exact Ev.now _
theorem none_zeroF : PPg.galoislaw23_none.f 0 [] = some true := rfl
theorem forms_law (a : Int) (A0 : Option Addr) (c0 : Nat) (L : List (List Int)) (w : World) (hg : Kd.C (Kd.slice 3 (Kd.int .i64)) w A0 L.length L) (hgc : L.length ≤ c0) :
    Calls Try.prog 5 #[.agg #[.int .i64 a, .slice A0 L.length c0]] w fun e w' => e = .returned (.bool true) ∧ Below w.heap.size w w' := by
  obtain ⟨b, ⟨K1, hb⟩, hfit⟩ := large_ev a L
  have h1 := hb K1 (Nat.le_refl _)
  cases b with
  | true => exact forms_large a A0 c0 L w hg hgc K1 h1
  | false =>
  obtain ⟨K2, h2⟩ := QRf.galoisref23_Check.ev a L
  obtain ⟨K7, h7⟩ := QBs.permgroup_Check.ev a L
  by_cases hw : chkG a L = 0
  · obtain ⟨n, S, E, fit⟩ := hfit rfl hw
    obtain ⟨rfl, hn, rfl, hS, hE, hG, hfew⟩ := fit
    obtain ⟨E', q1, q2, K3, h3⟩ := permgroup_Order.ev hn S hS
    have hEE : E' = E := sorted_eq q1 hE (fun p => by rw [q2, hG])
    subst hEE
    obtain ⟨K4, h4⟩ := elements_ev hn S hS hE hG hfew
    obtain ⟨K5, h5⟩ := reduced_ev hn S hS hE hG hfew
    obtain ⟨A, hA, K6, h6⟩ := permgroup_Chain.ev hn S hS
    have hEK : EK A 0 = E' := sorted_eq (EK_sorted hA.inv (Nat.zero_le _)) hE (fun p => by rw [EK_mem hA.inv (Nat.zero_le _), hA.holds, hG])
    obtain ⟨K8, h8⟩ := elementsP hn hE hG
    have h8' := h8 K8 (Nat.le_refl _)
    unfold closeR at h8'
    rw [if_pos hfew] at h8'
    obtain ⟨K9, h9⟩ := samePermsP hn E' E' rfl (by omega)
    obtain ⟨K10, h10⟩ := greedyP hn hE hG hfew
    obtain ⟨K11, h11⟩ := equalP hn (n : Int) (greedy E' []) (Nat.lt_of_le_of_lt (greedy_short hn (sorted_nodup hE) hG (by omega)) (by decide))
    obtain ⟨K12, h12⟩ := chain_refP hn hA.inv (by rw [hEK]; exact hfew)
    rw [hEK] at h12
    obtain ⟨K13, h13⟩ := sameChainsP hn hA.inv
    have h2' := h2 K2 (Nat.le_refl _)
    have h7' := h7 K7 (Nat.le_refl _)
    rw [hw] at h2' h7'
    have h9' := h9 K9 (Nat.le_refl _)
    rw [decide_eq_true rfl] at h9'
    have h3' := h3 K3 (Nat.le_refl _)
    rw [← List.length_map (f := Pm.l)] at h3'
    exact forms_ok (n : Int) A0 c0 _ w hg hgc K1 K2 K3 K4 K5 K6 K7 h1 _ _ _ _ h2' h3' (h4 K4 (Nat.le_refl _)) (h5 K5 (Nat.le_refl _)) (h6 K6 (Nat.le_refl _)) h7' K8 K9 K10 K11 K12 K13 h8' h9' (h10 K10 (Nat.le_refl _)) (h11 K11 (Nat.le_refl _)) (h12 K12 (Nat.le_refl _)) (h13 K13 (Nat.le_refl _))
  · have hbad : ∀ {α : Type} {f : Nat → Option α} {g : Int → Option α} {v : α}, (∀ k, f k = (permgroup_Check.f k a L).bind g) → g (chkG a L) = some v → Ev f v := fun h1 h2 => Ev.congr h1 (Ev.bind (QBs.permgroup_Check.ev a L) (by rw [h2]; exact Ev.now _))
    obtain ⟨K3, h3⟩ : Ev (fun k => permgroup_Order.f k a L) (0, chkG a L) := hbad (fun k => rfl) (by simp only [if_neg hw])
    obtain ⟨K4, h4⟩ : Ev (fun k => PPg.permgroup_Elements.f k a L) ([], chkG a L) := hbad (fun k => rfl) (by simp only [if_neg hw])
    obtain ⟨K5, h5⟩ : Ev (fun k => PPg.permgroup_Reduced.f k a L) (0, [], chkG a L) := hbad (fun k => rfl) (by simp only [if_neg hw])
    obtain ⟨K6, h6⟩ : Ev (fun k => permgroup_Chain.f k a L) ([], chkG a L) := hbad (fun k => rfl) (by simp only [if_neg hw])
    exact forms_bad a A0 c0 L w hg hgc K1 K2 K3 K4 K5 K6 K7 h1 (chkG a L) (h2 K2 (Nat.le_refl _)) (h3 K3 (Nat.le_refl _)) (h4 K4 (Nat.le_refl _)) (h5 K5 (Nat.le_refl _)) (h6 K6 (Nat.le_refl _)) (h7 K7 (Nat.le_refl _)) hw none_zeroF
def galoislaw23_PermgroupForms.f (k : Nat) (a0_0 : Int) (l0_1 : List (List Int)) : Option Bool := some true
theorem galoislaw23_PermgroupForms.mono : ∀ a0_0 l0_1 k, LeO (galoislaw23_PermgroupForms.f k a0_0 l0_1) (galoislaw23_PermgroupForms.f (k + 1) a0_0 l0_1) := fun _ _ _ => LeO.refl _
theorem galoislaw23_PermgroupForms.calls (k : Nat) (a0_0 : Int) (A0_1 : Option Addr) (c0_1 : Nat) (l0_1 : List (List Int)) (r : Bool) (w : World) (hr0_1 : Kd.C (Kd.slice 3 (Kd.int .i64)) w A0_1 l0_1.length l0_1) (hc0_1 : l0_1.length ≤ c0_1) (h : galoislaw23_PermgroupForms.f k a0_0 l0_1 = some r) :
    Calls Try.prog 5 #[.agg #[.int .i64 a0_0, .slice A0_1 l0_1.length c0_1]] w fun e w' => e = .returned (.bool r) ∧ Below w.heap.size w w' := by
  obtain rfl := Option.some.inj h
  exact forms_law a0_0 A0_1 c0_1 l0_1 w hr0_1 hc0_1
end Go.Proofs.Ytmbldnoepjmhhaa.Bs
end
