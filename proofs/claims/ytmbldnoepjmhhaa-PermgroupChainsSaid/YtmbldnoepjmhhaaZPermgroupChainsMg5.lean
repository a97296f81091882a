/- Texts of this claim put together (wip/tools/merge.py). -/
import Derived.Test.YtmbldnoepjmhhaaZPermgroupChainsPPgx0
import Derived.Test.YtmbldnoepjmhhaaZPermgroupChainsPPgx1
import Derived.Test.YtmbldnoepjmhhaaZPermgroupChainsMg3
import Derived.Test.YtmbldnoepjmhhaaZPermgroupChainsMg4
import Derived.Test.YtmbldnoepjmhhaaZPermgroupChainsMg1
set_option linter.unusedVariables false
set_option linter.unusedSimpArgs false
section
/- The walk of galoislaw23.awake: the chapter's example. -/
namespace Go.Proofs.Ytmbldnoepjmhhaa.Bs
open Go.RowKit Go.Proofs.YtmbldnoepjmhhaaW.PrintWords Go.Proofs.YtmbldnoepjmhhaaW.PrintLast Go.Proofs.YtmbldnoepjmhhaaW.PrintMore Go.Proofs.Ytmbldnoepjmhhaa.Plain Go.Proofs.Ytmbldnoepjmhhaa.PBs Go.Proofs.Ytmbldnoepjmhhaa.PAll
theorem lit_ints (W : World) (base : Nat) (xs : List Int) (hb : base ≤ W.heap.size) (hl : xs.length ≤ 1000) : Kd.R (Kd.int .i64) 3 (W.alloc (.cells (xs.map (Value.int .i64)).toArray 3)) base (fun b => b = W.heap.size) (.slice (some ⟨W.heap.size, 0, none⟩) xs.length xs.length) xs := by
  refine ⟨fun k hk => ?_, ?_⟩
  · have : W.heap.size = k := by simpa [Value.ownBlock] using hk
    exact this.symm
  · exact OwnRow.lit (ps := xs) (inner := xs.map (Value.int .i64)) W base ⟨by rw [List.length_map]; exact (Nat.mul_one _).symm, fun j p hj => by
      have hjl := (List.getElem?_eq_some_iff.1 hj).1
      show ((xs.map (Value.int .i64)).drop (j * 1)).take 1 = [Value.int .i64 p]
      rw [Nat.mul_one, List.drop_eq_getElem_cons (by simpa using hjl)]
      simp [(List.getElem?_eq_some_iff.1 hj).2]⟩ hb (by show xs.length ≤ 9223372036854775807; omega)
theorem lit_kvs (W : World) (base : Nat) (svs : List Sv) (hb : base ≤ W.heap.size) (hl : svs.length ≤ 1000) : Kd.R kv 49 (W.alloc (.cells (svs.map svE).toArray 49)) base (fun b => b = W.heap.size) (.slice (some ⟨W.heap.size, 0, none⟩) svs.length svs.length) svs := by
  refine ⟨fun k hk => ?_, ?_⟩
  · have : W.heap.size = k := by simpa [Value.ownBlock] using hk
    exact this.symm
  · exact OwnRow.lit (ps := svs) (inner := svs.map svE) W base ⟨by rw [List.length_map]; exact (Nat.mul_one _).symm, fun j p hj => by
      have hjl := (List.getElem?_eq_some_iff.1 hj).1
      show ((svs.map svE).drop (j * 1)).take 1 = [svE p]
      rw [Nat.mul_one, List.drop_eq_getElem_cons (by simpa using hjl)]
      simp [(List.getElem?_eq_some_iff.1 hj).2]⟩ hb (by show svs.length ≤ 9223372036854775807; omega)
set_option maxRecDepth 100000 in
theorem aw_order : permgroup_Order.f 60 4 [[1, 2, 3, 0], [2, 1, 0, 3]] = some (8, 0) := by decide +kernel
set_option maxRecDepth 100000 in
theorem aw_reduced : Go.Proofs.Ytmbldnoepjmhhaa.PPg.permgroup_Reduced.f 60 4 [[1, 2, 3, 0], [2, 1, 0, 3]] = some (4, [[0, 3, 2, 1], [1, 0, 3, 2]], 0) := by decide +kernel
set_option maxRecDepth 100000 in
theorem aw_index : permgroup_Index.f 60 4 [[1, 2, 3, 0], [2, 1, 0, 3]] [1, 2, 3, 0] = some (3, 0) := by decide +kernel
def aw_l0 : S71 := ⟨0, [0, 1, 2, 3], [[0, 1, 2, 3], [1, 0, 3, 2], [2, 1, 0, 3], [3, 0, 1, 2]]⟩
def aw_l1 : S71 := ⟨1, [1, 3], [[0, 1, 2, 3], [0, 3, 2, 1]]⟩
set_option maxRecDepth 100000 in
theorem aw_chain : permgroup_Chain.f 60 4 [[1, 2, 3, 0], [2, 1, 0, 3]] = some ([aw_l0, aw_l1], 0) := by kernel_rfl
theorem aw_equal : Go.Proofs.Ytmbldnoepjmhhaa.PRf.galoisref23_Equal.f 60 4 [[0, 3, 2, 1], [1, 0, 3, 2]] 4 [[0, 3, 2, 1], [1, 0, 3, 2]] = some true := by decide +kernel
theorem aw_same : Go.Proofs.Ytmbldnoepjmhhaa.PRf.galoisref22_Same.f 60 [1, 3] [1, 3] = some true := by decide +kernel
theorem aw_cells {e base g n c : Nat} {ok : Nat → Prop} {w : World} (h : Kd.R k71 e w base ok (.slice (some ⟨g, 0, none⟩) n c) [aw_l0, aw_l1]) : w.cell? ⟨g, 3, none⟩ = some (.int .i64 1) ∧ ∃ A co, w.cell? ⟨g, 4, none⟩ = some (.slice A 2 co) ∧ 2 ≤ co ∧ Kd.C (Kd.int .i64) w A 2 [1, 3] := by
  obtain ⟨_, _, hC⟩ := Kd.R_reads' h
  obtain ⟨_, _, h3⟩ := hC
  obtain ⟨ad, ea, hc⟩ := h3 (by decide)
  obtain rfl := Option.some.inj ea
  obtain ⟨cs, hcl, hK, hcc⟩ := hc 1 aw_l1 rfl
  obtain ⟨A1, c1, A2, c2, rfl, hl1, hC1, _, _⟩ := k71_open hK
  exact ⟨hcc 0 _ rfl, A1, c1, hcc 1 _ rfl, hl1, hC1⟩
theorem lit_two (W : World) (xs ys : List Int) (hx : xs.length ≤ 1000) (hy : ys.length ≤ 1000) (b2 b3 : Nat) (h2 : b2 = W.heap.size + 1) (h3 : b3 = W.heap.size + 1 + 1) :
    Kd.C (Kd.slice 3 (Kd.int .i64)) (((W.alloc (.cells (xs.map (Value.int .i64)).toArray 3)).alloc (.cells (ys.map (Value.int .i64)).toArray 3)).alloc (.cells #[.slice (some ⟨W.heap.size, 0, none⟩) xs.length xs.length, .slice (some ⟨b2, 0, none⟩) ys.length ys.length] 49)) (some ⟨b3, 0, none⟩) 2 [xs, ys] := by
  have s1 : (W.alloc (.cells (xs.map (Value.int .i64)).toArray 3)).heap.size = b2 := by rw [h2]; simp
  have s2 : ((W.alloc (.cells (xs.map (Value.int .i64)).toArray 3)).alloc (.cells (ys.map (Value.int .i64)).toArray 3)).heap.size = b3 := by rw [h3]; simp
  have r1 := lit_ints W 0 xs (Nat.zero_le _) hx
  have r2 := lit_ints (W.alloc (.cells (xs.map (Value.int .i64)).toArray 3)) 0 ys (Nat.zero_le _) hy
  rw [s1] at r2
  have r3 := lit_kvs ((W.alloc (.cells (xs.map (Value.int .i64)).toArray 3)).alloc (.cells (ys.map (Value.int .i64)).toArray 3)) 0 [(some ⟨W.heap.size, 0, none⟩, xs.length, xs.length), (some ⟨b2, 0, none⟩, ys.length, ys.length)] (Nat.zero_le _) (by simp)
  rw [s2] at r3
  refine C_of_kv r3 rfl (fun i sv p e1 e2 => ?_)
  match i, e1, e2 with
  | 0, e1, e2 =>
    obtain rfl := Option.some.inj e1
    obtain rfl := Option.some.inj e2
    exact PermAt.of_R (Kd.R_below (Kd.R_below r1 (below_alloc (Below.refl _ _) _)) (below_alloc (Below.refl _ _) _))
  | 1, e1, e2 =>
    obtain rfl := Option.some.inj e1
    obtain rfl := Option.some.inj e2
    exact PermAt.of_R (Kd.R_below r2 (below_alloc (Below.refl _ _) _))
def galoislaw23_awake.f : Option Bool := some true
set_option maxHeartbeats 16000000 in
set_option maxRecDepth 100000 in
theorem galoislaw23_awake.calls (r : Bool) (w : World) (h : galoislaw23_awake.f = some r) : Calls Try.prog 26 #[] w fun e w' => e = .returned (.bool r) ∧ Below w.heap.size w w' := by
  obtain rfl : true = r := Option.some.inj h
  clear h
  have hu := Try.underlying37
  go_enter Try.func26, Try.ntmps26
  have HB := Aside0.mk (Below.refl w.heap.size w)
  go_wp2_with (first
    | (go_at_call 85; (refine (Go.Proofs.Ytmbldnoepjmhhaa.PPg.galoislaw23_example.calls 4 [[1, 2, 3, 0], [2, 1, 0, 3]] _ rfl).mono ?_); rintro e1 w1 ⟨v1, rfl, hr1, hb⟩; obtain ⟨A1, c1, e1, hl1, hC1⟩ := Kd.N_reads hr1; subst e1; have HC1 := Aside0.mk hC1; have HL1 := Aside0.mk hl1; have HB := Aside0.mk (below_step (w := w) (by first | exact HB.out | exact below_alloc HB.out _) hb); try (have HR := Aside0.mk (below_step (w := wR.alloc (.cells #[.int .i64 4, .slice A3 2 c3] 37)) (by first | exact HR.out | exact below_alloc HR.out _ | exact Below.refl _ _) hb)); clear hr1 hb hl1 hC1)
    | (go_at_call 29; (refine (permgroup_Order.calls 60 4 A1 c1 [[1, 2, 3, 0], [2, 1, 0, 3]] 8 0 _ HC1.out HL1.out aw_order).mono ?_); rintro e2 w2 ⟨rfl, hb⟩; have HB := Aside0.mk (below_step (w := w) HB.out hb); clear hb)
    | (go_at_call 31; (refine (Go.Proofs.Ytmbldnoepjmhhaa.PPg.permgroup_Reduced.calls 60 4 A1 c1 [[1, 2, 3, 0], [2, 1, 0, 3]] 4 [[0, 3, 2, 1], [1, 0, 3, 2]] 0 _ HC1.out HL1.out aw_reduced).mono ?_); rintro e3 wR ⟨v3, rfl, hr3, hb⟩; obtain ⟨A3, c3, e3, hl3, hC3⟩ := Kd.R_reads (Kd.S_R hr3); subst e3; have HC3 := Aside0.mk hC3; have HL3 := Aside0.mk hl3; have HB := Aside0.mk (below_step (w := w) HB.out hb); have HR := Aside0.mk True.intro; clear hr3 hb hl3 hC3)
    | (go_at_call 58; (refine (permgroup_Index.calls 60 4 A1 c1 [[1, 2, 3, 0], [2, 1, 0, 3]] (some ⟨w1.heap.size, 0, none⟩) 4 [1, 2, 3, 0] 3 0 _ (Kd.C_below HC1.out (below_alloc (Below.refl _ _) _)) HL1.out (Kd.R_reads' (lit_ints w1 0 [1, 2, 3, 0] (Nat.zero_le _) (by decide))).2.2 (by decide) aw_index).mono ?_); rintro e4 w4 ⟨rfl, hb⟩; have HB := Aside0.mk (below_step (w := w) (below_alloc HB.out _) hb); have HR := Aside0.mk (below_step (w := wR.alloc (.cells #[.int .i64 4, .slice A3 2 c3] 37)) (below_alloc HR.out _) hb); clear hb)
    | (go_at_call 32; (refine (permgroup_Chain.calls 60 4 A1 c1 [[1, 2, 3, 0], [2, 1, 0, 3]] [aw_l0, aw_l1] 0 _ HC1.out HL1.out aw_chain).mono ?_); rintro e5 wC ⟨v5, rfl, hr5, hb⟩; obtain ⟨gc, cc, e5, _, _, _, _⟩ := Kd.R_form hr5 (by decide); subst e5; obtain ⟨hk3, Ao, co, hk4, hlo, hCo⟩ := aw_cells hr5; have HK4 := Aside0.mk hk4; have HLo := Aside0.mk hlo; have HCo := Aside0.mk hCo; clear hk4 hlo hCo; have HB := Aside0.mk (below_step (w := w) HB.out hb); have HR := Aside0.mk (below_step (w := wR.alloc (.cells #[.int .i64 4, .slice A3 2 c3] 37)) HR.out hb); have hg0 := cell_move (w' := wC) (show (wR.alloc (.cells #[.int .i64 4, .slice A3 2 c3] 37)).cell? ⟨wR.heap.size, 0, none⟩ = some (.int .i64 4) from by rw [World.cell?_alloc_at _ _ _ _ rfl]; rfl) (fun hlt => HR.out.block _ hlt); have hg1 := cell_move (w' := wC) (show (wR.alloc (.cells #[.int .i64 4, .slice A3 2 c3] 37)).cell? ⟨wR.heap.size, 1, none⟩ = some (.slice A3 2 c3) from by rw [World.cell?_alloc_at _ _ _ _ rfl]; rfl) (fun hlt => HR.out.block _ hlt); clear hr5 hb)
    | (go_at_call 37; (refine (Go.Proofs.Ytmbldnoepjmhhaa.PRf.galoisref23_Equal.calls 60 4 A3 c3 [[0, 3, 2, 1], [1, 0, 3, 2]] 4 (some ⟨wC.heap.size + 1 + 1, 0, none⟩) 2 [[0, 3, 2, 1], [1, 0, 3, 2]] true _ (Kd.C_below HC3.out (below_step (w := wR) (below_alloc (Below.refl _ _) _) (by repeat (first | exact HR.out | apply below_alloc)))) HL3.out (lit_two wC [0, 3, 2, 1] [1, 0, 3, 2] (by decide) (by decide) _ _ rfl rfl) (by decide) aw_equal).mono ?_); rintro e6 w6 ⟨rfl, hb⟩; have HB := Aside0.mk (below_step (w := w) (by repeat (first | exact HB.out | apply below_alloc)) hb); have HB6 := Aside0.mk (below_step (w := wC) (by repeat (first | exact Below.refl _ _ | apply below_alloc)) hb); have hk6 := cell_move (w' := w6) HK4.out (fun hlt => HB6.out.block _ hlt); clear hb)
    | (go_at_call 14; (refine (Go.Proofs.Ytmbldnoepjmhhaa.PRf.galoisref22_Same.calls 60 Ao co [1, 3] (some ⟨w6.heap.size, 0, none⟩) 2 [1, 3] true _ (Kd.C_below HCo.out (below_alloc HB6.out _)) HLo.out (Kd.R_reads' (lit_ints w6 0 [1, 3] (Nat.zero_le _) (by decide))).2.2 (by decide) aw_same).mono ?_); rintro e7 w7 ⟨rfl, hd⟩; have hq := hd.out; obtain ⟨q, rfl⟩ := hq; have HB := Aside0.mk (pw_below_drewN (below_alloc HB.out (.cells #[.int .i64 1, .int .i64 3] 3)) q); clear hd))
  go_ret
  exact ⟨rfl, HB.out⟩
end Go.Proofs.Ytmbldnoepjmhhaa.Bs
end
section
/- The walk of galoislaw23.lifts, by values. -/
namespace Go.Proofs.Ytmbldnoepjmhhaa.Bs
open Go.RowKit Go.Proofs.YtmbldnoepjmhhaaW.PrintWords Go.Proofs.YtmbldnoepjmhhaaW.PrintLast Go.Proofs.YtmbldnoepjmhhaaW.PrintMore Go.Proofs.Ytmbldnoepjmhhaa.Plain Go.Proofs.Ytmbldnoepjmhhaa.PBs Go.Proofs.Ytmbldnoepjmhhaa.PAll
set_option maxHeartbeats 16000000 in
set_option maxRecDepth 100000 in
theorem lifts_zero (n pt : Nat) (A0_1 : Option Addr) (c0_1 : Nat) (L : List (List Int)) (Ao : Option Addr) (co : Nat) (o : List Int) (Aw : Option Addr) (cw : Nat) (ws : List (List Int)) (w : World) (hG : Kd.C (Kd.slice 3 (Kd.int .i64)) w A0_1 L.length L) (hc0_1 : L.length ≤ c0_1) (hO : Kd.C (Kd.int .i64) w Ao o.length o) (hW : Kd.C (Kd.slice 3 (Kd.int .i64)) w Aw ws.length ws)
    (hk : 0 < ws.length) (hk2 : 0 < o.length) (wd : List Int) (hwd : ws[0] = wd) (y : Int) (hy : o[0] = y) (hwl : wd.length = n) (hn : n ≤ 20) (hpt : pt < n) (hwy : rd wd (pt : Int) = y) (hfix : ∀ i, i < pt → rd wd (i : Int) = (i : Int))
    (K1 K2 : Nat) (h1 : PRf.galoisref22_Check.f K1 wd = some 0) (h2 : permgroup_Contains.f K2 (n : Int) L wd = some (true, 0)) :
    Calls Try.prog 42 #[.agg #[.int .i64 (n : Int), .slice A0_1 L.length c0_1], .agg #[.int .i64 (pt : Int), .slice Ao o.length co, .slice Aw ws.length cw], .int .i64 (0 : Int)] w fun e w' => e = .returned (.bool true) ∧ Below w.heap.size w w' := by
  have hu := Try.underlying37
  have hu2 := Try.underlying71
  have HC := Aside0.mk hc0_1
  have HGW := Aside0.mk hG
  have HB0 : Aside0 (Below w.heap.size w ((w.alloc (.cells #[.int .i64 (n : Int), .slice A0_1 L.length c0_1] 37)).alloc (.cells #[.int .i64 (pt : Int), .slice Ao o.length co, .slice Aw ws.length cw] 71))) := ⟨below_alloc (below_alloc (Below.refl _ _) _) _⟩
  have HG := Aside0.mk (Kd.C_below hG HB0.out)
  have HO := Aside0.mk (Kd.C_below hO HB0.out)
  have HGB : ((w.alloc (.cells #[.int .i64 (n : Int), .slice A0_1 L.length c0_1] 37)).alloc (.cells #[.int .i64 (pt : Int), .slice Ao o.length co, .slice Aw ws.length cw] 71)).heap[w.heap.size]? = some (.cells #[.int .i64 (n : Int), .slice A0_1 L.length c0_1] 37 (0, 0)) := blk_alloc (blk_new _ _) _
  have HCB : ((w.alloc (.cells #[.int .i64 (n : Int), .slice A0_1 L.length c0_1] 37)).alloc (.cells #[.int .i64 (pt : Int), .slice Ao o.length co, .slice Aw ws.length cw] 71)).heap[w.heap.size + 1]? = some (.cells #[.int .i64 (pt : Int), .slice Ao o.length co, .slice Aw ws.length cw] 71 (0, 0)) := by simp only [heap_push2, Array.getElem?_push, Array.size_push]; simp
  have hg0 : ((w.alloc (.cells #[.int .i64 (n : Int), .slice A0_1 L.length c0_1] 37)).alloc (.cells #[.int .i64 (pt : Int), .slice Ao o.length co, .slice Aw ws.length cw] 71)).cell? ⟨w.heap.size, 0, none⟩ = some (.int .i64 (n : Int)) := blk_cell HGB 0
  have hg1 : ((w.alloc (.cells #[.int .i64 (n : Int), .slice A0_1 L.length c0_1] 37)).alloc (.cells #[.int .i64 (pt : Int), .slice Ao o.length co, .slice Aw ws.length cw] 71)).cell? ⟨w.heap.size, 1, none⟩ = some (.slice A0_1 L.length c0_1) := blk_cell HGB 1
  have hc0 : ((w.alloc (.cells #[.int .i64 (n : Int), .slice A0_1 L.length c0_1] 37)).alloc (.cells #[.int .i64 (pt : Int), .slice Ao o.length co, .slice Aw ws.length cw] 71)).cell? ⟨w.heap.size + 1, 0, none⟩ = some (.int .i64 (pt : Int)) := blk_cell HCB 0
  have hc1 : ((w.alloc (.cells #[.int .i64 (n : Int), .slice A0_1 L.length c0_1] 37)).alloc (.cells #[.int .i64 (pt : Int), .slice Ao o.length co, .slice Aw ws.length cw] 71)).cell? ⟨w.heap.size + 1, 1, none⟩ = some (.slice Ao o.length co) := blk_cell HCB 1
  have hc2 : ((w.alloc (.cells #[.int .i64 (n : Int), .slice A0_1 L.length c0_1] 37)).alloc (.cells #[.int .i64 (pt : Int), .slice Ao o.length co, .slice Aw ws.length cw] 71)).cell? ⟨w.heap.size + 1, 2, none⟩ = some (.slice Aw ws.length cw) := blk_cell HCB 2
  obtain ⟨ad, gv, eA, hcell0, hga⟩ := row_at hW (List.getElem?_eq_getElem hk)
  subst eA
  obtain ⟨ax, cx, ex, hlex, hCx⟩ := hga
  rw [ex] at hcell0
  rw [hwd] at hcell0 hlex hCx
  have hcell := (World.cell?_of_block (w := w) (HB0.out.block _ (World.block_lt_of_cell? w _ hcell0))).trans hcell0
  have HX := Aside0.mk (Kd.C_below hCx HB0.out)
  have HLX := Aside0.mk hlex
  obtain ⟨bo, eo, hoc⟩ := Kd.at_int HO.out (0 : Int) (by omega) (by omega)
  rw [show rd o (0 : Int) = y from by first | (rw [rd_get _ _ hk2, hy]; done) | (rw [show (0 : Int) = ((0 : Nat) : Int) from rfl, rd_get _ _ hk2, hy])] at hoc
  subst eo
  obtain ⟨bx, ebx, hxc⟩ := Kd.at_int HX.out (pt : Int) (by omega) (by omega)
  rw [hwy] at hxc
  subst ebx
  rw [Int.toNat_natCast] at hxc
  have i1 : (0 < ws.length) = True := eq_true hk
  have i2 : (0 < (ws.length : Int)) = True := eq_true (by omega)
  have i3 : (0 < o.length) = True := eq_true hk2
  have i4 : (0 < (o.length : Int)) = True := eq_true (by omega)
  have ez : ∀ a : Addr, a.add 0 = a := fun a => by unfold Addr.add; split <;> simp_all
  have hoc2 := hoc
  have hcell2 := hcell
  rw [ez] at hcell2
  rw [show (0 : Int).toNat = 0 from rfl, ez] at hoc2
  have HFIX := Aside0.mk hfix
  have HPT := Aside0.mk hpt
  have HWL := Aside0.mk hwl
  have HN := Aside0.mk hn
  have H1 := Aside0.mk h1
  have H2 := Aside0.mk h2
  have d1 : ((wd.length : Int) != (n : Int)) = false := by rw [hwl]; simp
  have d2 : (wd.length != n) = false := by rw [hwl]; simp
  have d3 : decide ((pt : Int) < 0) = false := decide_eq_false (by omega)
  have d4 : decide ((wd.length : Int) ≤ (pt : Int)) = false := decide_eq_false (by omega)
  have d5 : decide (wd.length ≤ pt) = false := decide_eq_false (by omega)
  have d6 : (pt < wd.length) = True := eq_true (by omega)
  have d7 : ((pt : Int) < (wd.length : Int)) = True := eq_true (by omega)
  have d8 : (0 ≤ (pt : Int)) = True := eq_true (by omega)
  clear hG hc0_1 hO hW hk hk2 hwd hy hwl hn hpt hwy hfix h1 h2 hcell0 hlex hCx ex HGB HCB
  go_enter Try.func42, Try.ntmps42
  go_wp2
  go_quiet (first | (go_at_call 45; (refine (PRf.galoisref22_Check.calls K1 (some bx) cx wd 0 _ (Kd.C_below HX.out (by repeat (first | (with_reducible first | exact Below.refl _ _ | apply below_alloc | apply pw_below_drewN | apply below_drew1) | exact Below.refl _ _))) HLX.out H1.out).mono ?_); rintro e w' ⟨rfl, ⟨nd, rfl⟩⟩; (try first | exact ⟨rfl, _, World.drewN_drewN _ _ _⟩ | exact ⟨rfl, _, Eq.trans (World.drewN_drewN _ _ _) (congrArg (World.drewN _) (Nat.add_assoc _ _ _))⟩)))
  go_wp2
  go_loopg [8] pt (fun kq v8 w' => ∃ (i : Nat), v8 = .int .i64 (i : Int) ∧ Aside0 (w'.cell? ⟨w.heap.size, 0, none⟩ = some (.int .i64 (n : Int)) ∧ w'.cell? ⟨w.heap.size, 1, none⟩ = some (.slice A0_1 L.length c0_1) ∧ w'.cell? ⟨w.heap.size + 1, 0, none⟩ = some (.int .i64 (pt : Int))) ∧ Aside0 (Kd.C (Kd.int .i64) w' (some bx) wd.length wd) ∧ Aside0 (Below w.heap.size w w') ∧ Aside0 (i + kq = pt))
  case atStart => exact ⟨0, (by first | rfl | (simp; done)), ⟨by simp only [World.cell?_drewN]; exact ⟨hg0, hg1, hc0⟩⟩, ⟨Kd.C_below HX.out (pw_below_drewN (Below.refl _ _) _)⟩, ⟨pw_below_drewN HB0.out _⟩, ⟨by omega⟩⟩
  case round =>
    obtain ⟨i, rfl, HCE, HXR, HB, HI⟩ := hrel
    obtain ⟨k0, k1, k2⟩ := HCE.out
    cases gk with
    | zero =>
      have hj : (i < pt) = False := eq_false (by have := HI.out; omega)
      have hj2 : ((i : Int) < (pt : Int)) = False := eq_false (by have := HI.out; omega)
      go_wp2_with (go_at_call 44; (refine (permgroup_Contains.calls K2 (n : Int) A0_1 c0_1 L (some bx) cx wd true 0 _ (Kd.C_below HGW.out HB.out) HC.out HXR.out HLX.out H2.out).mono ?_); rintro e w5 ⟨rfl, hb5⟩; have HB5 := Aside0.mk (below_step HB.out hb5); clear hb5)
      go_ret
      exact ⟨rfl, HB5.out⟩
    | succ m1 =>
      have hjl : i < pt := by have := HI.out; omega
      have hj : (i < pt) = True := eq_true hjl
      have hj2 : ((i : Int) < (pt : Int)) = True := eq_true (by omega)
      have hj0 : (0 ≤ (i : Int)) = True := eq_true (by omega)
      have hj3 : (i < wd.length) = True := eq_true (by have := HPT.out; have := HWL.out; omega)
      have hj4 : ((i : Int) < (wd.length : Int)) = True := eq_true (by have := HPT.out; have := HWL.out; omega)
      have wi : wrap64 ((i : Int) + 1) = ((i + 1 : Nat) : Int) := (IntWalk.wrap64_in _ ⟨by omega, by have := HPT.out; have := HN.out; omega⟩).trans (by omega)
      obtain ⟨bi, ebi, hic⟩ := Kd.at_int HXR.out (i : Int) (by omega) (by have := HPT.out; have := HWL.out; omega)
      obtain rfl := Option.some.inj ebi
      rw [HFIX.out i hjl, Int.toNat_natCast] at hic
      clear hjl
      go_wp2
      go_roundg m1
      case measure => exact Nat.lt_succ_self _
      case rel => exact ⟨i + 1, (by first | (rw [wi]; done) | rfl), HCE, HXR, HB, ⟨by have := HI.out; omega⟩⟩
set_option maxHeartbeats 16000000 in
set_option maxRecDepth 100000 in
theorem lifts_succ (n pt j : Nat) (A0_1 : Option Addr) (c0_1 : Nat) (L : List (List Int)) (Ao : Option Addr) (co : Nat) (o : List Int) (Aw : Option Addr) (cw : Nat) (ws : List (List Int)) (w : World) (hG : Kd.C (Kd.slice 3 (Kd.int .i64)) w A0_1 L.length L) (hc0_1 : L.length ≤ c0_1) (hO : Kd.C (Kd.int .i64) w Ao o.length o) (hW : Kd.C (Kd.slice 3 (Kd.int .i64)) w Aw ws.length ws)
    (hk : j + 1 < ws.length) (hk2 : j + 1 < o.length) (wd : List Int) (hwd : ws[j + 1] = wd) (y : Int) (hy : o[j + 1] = y) (hwl : wd.length = n) (hn : n ≤ 20) (hpt : pt < n) (hwy : rd wd (pt : Int) = y) (hfix : ∀ i, i < pt → rd wd (i : Int) = (i : Int)) (z : Int) (hz : o[j] = z) (hzy : z < y)
    (K1 K2 : Nat) (h1 : PRf.galoisref22_Check.f K1 wd = some 0) (h2 : permgroup_Contains.f K2 (n : Int) L wd = some (true, 0)) :
    Calls Try.prog 42 #[.agg #[.int .i64 (n : Int), .slice A0_1 L.length c0_1], .agg #[.int .i64 (pt : Int), .slice Ao o.length co, .slice Aw ws.length cw], .int .i64 ((j + 1 : Nat) : Int)] w fun e w' => e = .returned (.bool true) ∧ Below w.heap.size w w' := by
  have hu := Try.underlying37
  have hu2 := Try.underlying71
  have HC := Aside0.mk hc0_1
  have HGW := Aside0.mk hG
  have HB0 : Aside0 (Below w.heap.size w ((w.alloc (.cells #[.int .i64 (n : Int), .slice A0_1 L.length c0_1] 37)).alloc (.cells #[.int .i64 (pt : Int), .slice Ao o.length co, .slice Aw ws.length cw] 71))) := ⟨below_alloc (below_alloc (Below.refl _ _) _) _⟩
  have HG := Aside0.mk (Kd.C_below hG HB0.out)
  have HO := Aside0.mk (Kd.C_below hO HB0.out)
  have HGB : ((w.alloc (.cells #[.int .i64 (n : Int), .slice A0_1 L.length c0_1] 37)).alloc (.cells #[.int .i64 (pt : Int), .slice Ao o.length co, .slice Aw ws.length cw] 71)).heap[w.heap.size]? = some (.cells #[.int .i64 (n : Int), .slice A0_1 L.length c0_1] 37 (0, 0)) := blk_alloc (blk_new _ _) _
  have HCB : ((w.alloc (.cells #[.int .i64 (n : Int), .slice A0_1 L.length c0_1] 37)).alloc (.cells #[.int .i64 (pt : Int), .slice Ao o.length co, .slice Aw ws.length cw] 71)).heap[w.heap.size + 1]? = some (.cells #[.int .i64 (pt : Int), .slice Ao o.length co, .slice Aw ws.length cw] 71 (0, 0)) := by simp only [heap_push2, Array.getElem?_push, Array.size_push]; simp
  have hg0 : ((w.alloc (.cells #[.int .i64 (n : Int), .slice A0_1 L.length c0_1] 37)).alloc (.cells #[.int .i64 (pt : Int), .slice Ao o.length co, .slice Aw ws.length cw] 71)).cell? ⟨w.heap.size, 0, none⟩ = some (.int .i64 (n : Int)) := blk_cell HGB 0
  have hg1 : ((w.alloc (.cells #[.int .i64 (n : Int), .slice A0_1 L.length c0_1] 37)).alloc (.cells #[.int .i64 (pt : Int), .slice Ao o.length co, .slice Aw ws.length cw] 71)).cell? ⟨w.heap.size, 1, none⟩ = some (.slice A0_1 L.length c0_1) := blk_cell HGB 1
  have hc0 : ((w.alloc (.cells #[.int .i64 (n : Int), .slice A0_1 L.length c0_1] 37)).alloc (.cells #[.int .i64 (pt : Int), .slice Ao o.length co, .slice Aw ws.length cw] 71)).cell? ⟨w.heap.size + 1, 0, none⟩ = some (.int .i64 (pt : Int)) := blk_cell HCB 0
  have hc1 : ((w.alloc (.cells #[.int .i64 (n : Int), .slice A0_1 L.length c0_1] 37)).alloc (.cells #[.int .i64 (pt : Int), .slice Ao o.length co, .slice Aw ws.length cw] 71)).cell? ⟨w.heap.size + 1, 1, none⟩ = some (.slice Ao o.length co) := blk_cell HCB 1
  have hc2 : ((w.alloc (.cells #[.int .i64 (n : Int), .slice A0_1 L.length c0_1] 37)).alloc (.cells #[.int .i64 (pt : Int), .slice Ao o.length co, .slice Aw ws.length cw] 71)).cell? ⟨w.heap.size + 1, 2, none⟩ = some (.slice Aw ws.length cw) := blk_cell HCB 2
  obtain ⟨ad, gv, eA, hcell0, hga⟩ := row_at hW (List.getElem?_eq_getElem hk)
  subst eA
  obtain ⟨ax, cx, ex, hlex, hCx⟩ := hga
  rw [ex] at hcell0
  rw [hwd] at hcell0 hlex hCx
  have hcell := (World.cell?_of_block (w := w) (HB0.out.block _ (World.block_lt_of_cell? w _ hcell0))).trans hcell0
  have HX := Aside0.mk (Kd.C_below hCx HB0.out)
  have HLX := Aside0.mk hlex
  obtain ⟨bo, eo, hoc⟩ := Kd.at_int HO.out ((j + 1 : Nat) : Int) (by omega) (by omega)
  rw [show rd o ((j + 1 : Nat) : Int) = y from by first | (rw [rd_get _ _ hk2, hy]; done) | (rw [show (0 : Int) = ((0 : Nat) : Int) from rfl, rd_get _ _ hk2, hy])] at hoc
  subst eo
  obtain ⟨bx, ebx, hxc⟩ := Kd.at_int HX.out (pt : Int) (by omega) (by omega)
  rw [hwy] at hxc
  subst ebx
  rw [Int.toNat_natCast] at hxc
  obtain ⟨bo2, eo2, hoc2⟩ := Kd.at_int HO.out (j : Int) (by omega) (by omega)
  obtain rfl := Option.some.inj eo2
  rw [rd_get _ _ (by omega), hz] at hoc2
  rw [Int.toNat_natCast] at hoc hoc2
  have e9 : decide (y ≤ z) = false := decide_eq_false (by omega)
  have e10 : (0 < j + 1) = True := eq_true (by omega)
  have e11 : decide (0 < ((j + 1 : Nat) : Int)) = true := decide_eq_true (by omega)
  have wk : IntKind.i64.wrap (((j + 1 : Nat) : Int) - 1) = (j : Int) := (IntWalk.i64_in _ (by have := HO.out.2.1; omega)).trans (by omega)
  have wk2 : wrap64 (((j + 1 : Nat) : Int) - 1) = (j : Int) := (IntWalk.wrap64_in _ ⟨by omega, by have := HO.out.2.1; omega⟩).trans (by omega)
  have i1 : (j + 1 < ws.length) = True := eq_true hk
  have i2 : (((j + 1 : Nat) : Int) < (ws.length : Int)) = True := eq_true (by omega)
  have i3 : (j + 1 < o.length) = True := eq_true hk2
  have i4 : (((j + 1 : Nat) : Int) < (o.length : Int)) = True := eq_true (by omega)
  have i5 : (j < o.length) = True := eq_true (by omega)
  have i6 : ((j : Int) < (o.length : Int)) = True := eq_true (by omega)
  have i7 : (0 ≤ ((j + 1 : Nat) : Int)) = True := eq_true (by omega)
  have i8 : (0 ≤ (j : Int)) = True := eq_true (by omega)
  obtain ⟨k, hk_⟩ : ∃ k : Nat, j + 1 = k := ⟨_, rfl⟩
  rw [hk_] at hcell hoc e10 e11 wk wk2 i1 i2 i3 i4 i7
  rw [hk_]
  have HFIX := Aside0.mk hfix
  have HPT := Aside0.mk hpt
  have HWL := Aside0.mk hwl
  have HN := Aside0.mk hn
  have H1 := Aside0.mk h1
  have H2 := Aside0.mk h2
  have d1 : ((wd.length : Int) != (n : Int)) = false := by rw [hwl]; simp
  have d2 : (wd.length != n) = false := by rw [hwl]; simp
  have d3 : decide ((pt : Int) < 0) = false := decide_eq_false (by omega)
  have d4 : decide ((wd.length : Int) ≤ (pt : Int)) = false := decide_eq_false (by omega)
  have d5 : decide (wd.length ≤ pt) = false := decide_eq_false (by omega)
  have d6 : (pt < wd.length) = True := eq_true (by omega)
  have d7 : ((pt : Int) < (wd.length : Int)) = True := eq_true (by omega)
  have d8 : (0 ≤ (pt : Int)) = True := eq_true (by omega)
  clear hG hc0_1 hO hW hk hk2 hwd hy hwl hn hpt hwy hfix h1 h2 hcell0 hlex hCx ex HGB HCB hz hzy hk_
  go_enter Try.func42, Try.ntmps42
  go_wp2
  go_quiet (first | (go_at_call 45; (refine (PRf.galoisref22_Check.calls K1 (some bx) cx wd 0 _ (Kd.C_below HX.out (by repeat (first | (with_reducible first | exact Below.refl _ _ | apply below_alloc | apply pw_below_drewN | apply below_drew1) | exact Below.refl _ _))) HLX.out H1.out).mono ?_); rintro e w' ⟨rfl, ⟨nd, rfl⟩⟩; (try first | exact ⟨rfl, _, World.drewN_drewN _ _ _⟩ | exact ⟨rfl, _, Eq.trans (World.drewN_drewN _ _ _) (congrArg (World.drewN _) (Nat.add_assoc _ _ _))⟩)))
  go_wp2
  go_loopg [8] pt (fun kq v8 w' => ∃ (i : Nat), v8 = .int .i64 (i : Int) ∧ Aside0 (w'.cell? ⟨w.heap.size, 0, none⟩ = some (.int .i64 (n : Int)) ∧ w'.cell? ⟨w.heap.size, 1, none⟩ = some (.slice A0_1 L.length c0_1) ∧ w'.cell? ⟨w.heap.size + 1, 0, none⟩ = some (.int .i64 (pt : Int))) ∧ Aside0 (Kd.C (Kd.int .i64) w' (some bx) wd.length wd) ∧ Aside0 (Below w.heap.size w w') ∧ Aside0 (i + kq = pt))
  case atStart => exact ⟨0, (by first | rfl | (simp; done)), ⟨by simp only [World.cell?_drewN]; exact ⟨hg0, hg1, hc0⟩⟩, ⟨Kd.C_below HX.out (pw_below_drewN (Below.refl _ _) _)⟩, ⟨pw_below_drewN HB0.out _⟩, ⟨by omega⟩⟩
  case round =>
    obtain ⟨i, rfl, HCE, HXR, HB, HI⟩ := hrel
    obtain ⟨k0, k1, k2⟩ := HCE.out
    cases gk with
    | zero =>
      have hj : (i < pt) = False := eq_false (by have := HI.out; omega)
      have hj2 : ((i : Int) < (pt : Int)) = False := eq_false (by have := HI.out; omega)
      go_wp2_with (go_at_call 44; (refine (permgroup_Contains.calls K2 (n : Int) A0_1 c0_1 L (some bx) cx wd true 0 _ (Kd.C_below HGW.out HB.out) HC.out HXR.out HLX.out H2.out).mono ?_); rintro e w5 ⟨rfl, hb5⟩; have HB5 := Aside0.mk (below_step HB.out hb5); clear hb5)
      go_ret
      exact ⟨rfl, HB5.out⟩
    | succ m1 =>
      have hjl : i < pt := by have := HI.out; omega
      have hj : (i < pt) = True := eq_true hjl
      have hj2 : ((i : Int) < (pt : Int)) = True := eq_true (by omega)
      have hj0 : (0 ≤ (i : Int)) = True := eq_true (by omega)
      have hj3 : (i < wd.length) = True := eq_true (by have := HPT.out; have := HWL.out; omega)
      have hj4 : ((i : Int) < (wd.length : Int)) = True := eq_true (by have := HPT.out; have := HWL.out; omega)
      have wi : wrap64 ((i : Int) + 1) = ((i + 1 : Nat) : Int) := (IntWalk.wrap64_in _ ⟨by omega, by have := HPT.out; have := HN.out; omega⟩).trans (by omega)
      obtain ⟨bi, ebi, hic⟩ := Kd.at_int HXR.out (i : Int) (by omega) (by have := HPT.out; have := HWL.out; omega)
      obtain rfl := Option.some.inj ebi
      rw [HFIX.out i hjl, Int.toNat_natCast] at hic
      clear hjl
      go_wp2
      go_roundg m1
      case measure => exact Nat.lt_succ_self _
      case rel => exact ⟨i + 1, (by first | (rw [wi]; done) | rfl), HCE, HXR, HB, ⟨by have := HI.out; omega⟩⟩
end Go.Proofs.Ytmbldnoepjmhhaa.Bs
end
section
/- The walk of PermgroupChains, by values. -/
namespace Go.Proofs.Ytmbldnoepjmhhaa.Bs
open Go.RowKit Go.Proofs.YtmbldnoepjmhhaaW.PrintWords Go.Proofs.YtmbldnoepjmhhaaW.PrintLast Go.Proofs.YtmbldnoepjmhhaaW.PrintMore Go.Proofs.Ytmbldnoepjmhhaa.Plain Go.Proofs.Ytmbldnoepjmhhaa.PBs Go.Proofs.Ytmbldnoepjmhhaa.PAll
set_option maxHeartbeats 16000000 in
set_option maxRecDepth 100000 in
theorem chains_few (n : Int) (A0_1 : Option Addr) (c0_1 : Nat) (L : List (List Int)) (A1 : Option Addr) (c1 : Nat) (lw : List Int) (A2 : Option Addr) (c2 : Nat) (lp : List Int) (w : World) (hr0_1 : Kd.C (Kd.slice 3 (Kd.int .i64)) w A0_1 L.length L) (hc0_1 : L.length ≤ c0_1) (hr1 : Kd.C (Kd.int .u8) w A1 lw.length lw) (hc1 : lw.length ≤ c1) (hr2 : Kd.C (Kd.int .i64) w A2 lp.length lp) (hc2 : lp.length ≤ c2) (K1 : Nat) (h1 : PRf.galoisref23_Few.f K1 n L = some false) : Calls Try.prog 6 #[.agg #[.int .i64 n, .slice A0_1 L.length c0_1], .slice A1 lw.length c1, .slice A2 lp.length c2] w fun e w' => e = .returned (.bool true) ∧ Below w.heap.size w w' := by
  have H1 := Aside0.mk h1
  clear h1
  have hu := Try.underlying37
  have HB : Aside0 (Below (w.alloc (.cells #[.int .i64 n, .slice A0_1 L.length c0_1] 37)).heap.size (w.alloc (.cells #[.int .i64 n, .slice A0_1 L.length c0_1] 37)) (w.alloc (.cells #[.int .i64 n, .slice A0_1 L.length c0_1] 37))) := ⟨Below.refl _ _⟩
  have HC := Aside0.mk hc0_1
  have HC2 := Aside0.mk hc2
  have HBW : Aside0 (Below w.heap.size w (w.alloc (.cells #[.int .i64 n, .slice A0_1 L.length c0_1] 37))) := ⟨below_alloc (Below.refl _ _) _⟩
  have HG := Aside0.mk (Kd.C_below hr0_1 HBW.out)
  have HWD := Aside0.mk (Kd.C_below hr1 HBW.out)
  have HPP := Aside0.mk (Kd.C_below hr2 HBW.out)
  have hx0 : (w.alloc (.cells #[.int .i64 n, .slice A0_1 L.length c0_1] 37)).cell? ⟨w.heap.size, 0, none⟩ = some (.int .i64 n) := by rw [World.cell?_alloc_at _ _ _ _ rfl]; rfl
  have hx1 : (w.alloc (.cells #[.int .i64 n, .slice A0_1 L.length c0_1] 37)).cell? ⟨w.heap.size, 1, none⟩ = some (.slice A0_1 L.length c0_1) := by rw [World.cell?_alloc_at _ _ _ _ rfl]; rfl
  clear hr0_1 hc0_1 hr1 hc1 hr2 hc2
  go_enter Try.func6, Try.ntmps6
  go_wp2_with (first
    | (go_at_call 26; have hq_ : w2 = w2 := rfl; clear hq_; (refine (galoislaw23_awake.calls true _ rfl).mono ?_); rintro e w3 ⟨rfl, hb3⟩; have hw3 := below_step (w := w2) (by repeat (first | (with_reducible first | exact Below.refl _ _ | apply below_alloc | apply pw_below_drewN | apply below_drew1) | exact Below.refl _ _)) hb3; replace HB := Aside0.mk (below_step HB.out hw3); replace HG := Aside0.mk (Kd.C_below HG.out hw3); replace hx0 := cell_move hx0 (fun hlt => hw3.block _ hlt); replace hx1 := cell_move hx1 (fun hlt => hw3.block _ hlt); clear hb3 hw3)
    | (go_at_call 41; have hq_ : w1 = w1 := rfl; clear hq_; (refine (PRf.galoisref23_Few.calls K1 n A0_1 c0_1 L false _ (Kd.C_below HG.out (by repeat (first | (with_reducible first | exact Below.refl _ _ | apply below_alloc | apply pw_below_drewN | apply below_drew1) | exact Below.refl _ _))) HC.out H1.out).mono ?_); rintro e w2 ⟨rfl, hb2⟩; have hw2 := below_step (w := w1) (by repeat (first | (with_reducible first | exact Below.refl _ _ | apply below_alloc | apply pw_below_drewN | apply below_drew1) | exact Below.refl _ _)) hb2; replace HB := Aside0.mk (below_step HB.out hw2); replace HG := Aside0.mk (Kd.C_below HG.out hw2); replace hx0 := cell_move hx0 (fun hlt => hw2.block _ hlt); replace hx1 := cell_move hx1 (fun hlt => hw2.block _ hlt); clear hb2 hw2)
    | (go_at_call 26; (refine (galoislaw23_awake.calls true _ rfl).mono ?_); rintro e w1 ⟨rfl, hb1⟩; have hw1 := below_step (w := (w.alloc (.cells #[.int .i64 n, .slice A0_1 L.length c0_1] 37))) (by repeat (first | (with_reducible first | exact Below.refl _ _ | apply below_alloc | apply pw_below_drewN | apply below_drew1) | exact Below.refl _ _)) hb1; replace HB := Aside0.mk (below_step HB.out hw1); replace HG := Aside0.mk (Kd.C_below HG.out hw1); replace hx0 := cell_move hx0 (fun hlt => hw1.block _ hlt); replace hx1 := cell_move hx1 (fun hlt => hw1.block _ hlt); clear hb1 hw1))
  go_ret
  exact ⟨rfl, below_then (below_alloc (Below.refl _ _) _) (by simp) HB.out⟩
set_option maxHeartbeats 16000000 in
set_option maxRecDepth 100000 in
theorem chains_chk (n : Int) (A0_1 : Option Addr) (c0_1 : Nat) (L : List (List Int)) (A1 : Option Addr) (c1 : Nat) (lw : List Int) (A2 : Option Addr) (c2 : Nat) (lp : List Int) (w : World) (hr0_1 : Kd.C (Kd.slice 3 (Kd.int .i64)) w A0_1 L.length L) (hc0_1 : L.length ≤ c0_1) (hr1 : Kd.C (Kd.int .u8) w A1 lw.length lw) (hc1 : lw.length ≤ c1) (hr2 : Kd.C (Kd.int .i64) w A2 lp.length lp) (hc2 : lp.length ≤ c2) (K1 : Nat) (h1 : PRf.galoisref23_Few.f K1 n L = some true) (ec : Int) (h0 : ec ≠ 0) (K2 : Nat) (h2 : PRf.galoisref23_Check.f K2 n L = some ec) : Calls Try.prog 6 #[.agg #[.int .i64 n, .slice A0_1 L.length c0_1], .slice A1 lw.length c1, .slice A2 lp.length c2] w fun e w' => e = .returned (.bool true) ∧ Below w.heap.size w w' := by
  have H1 := Aside0.mk h1
  have H2 := Aside0.mk h2
  have e1 : (ec == 0) = false := beq_eq_false_iff_ne.mpr h0
  have e2 : (ec != 0) = true := bne_iff_ne.mpr h0
  clear h1 h2 h0
  have hu := Try.underlying37
  have HB : Aside0 (Below (w.alloc (.cells #[.int .i64 n, .slice A0_1 L.length c0_1] 37)).heap.size (w.alloc (.cells #[.int .i64 n, .slice A0_1 L.length c0_1] 37)) (w.alloc (.cells #[.int .i64 n, .slice A0_1 L.length c0_1] 37))) := ⟨Below.refl _ _⟩
  have HC := Aside0.mk hc0_1
  have HC2 := Aside0.mk hc2
  have HBW : Aside0 (Below w.heap.size w (w.alloc (.cells #[.int .i64 n, .slice A0_1 L.length c0_1] 37))) := ⟨below_alloc (Below.refl _ _) _⟩
  have HG := Aside0.mk (Kd.C_below hr0_1 HBW.out)
  have HWD := Aside0.mk (Kd.C_below hr1 HBW.out)
  have HPP := Aside0.mk (Kd.C_below hr2 HBW.out)
  have hx0 : (w.alloc (.cells #[.int .i64 n, .slice A0_1 L.length c0_1] 37)).cell? ⟨w.heap.size, 0, none⟩ = some (.int .i64 n) := by rw [World.cell?_alloc_at _ _ _ _ rfl]; rfl
  have hx1 : (w.alloc (.cells #[.int .i64 n, .slice A0_1 L.length c0_1] 37)).cell? ⟨w.heap.size, 1, none⟩ = some (.slice A0_1 L.length c0_1) := by rw [World.cell?_alloc_at _ _ _ _ rfl]; rfl
  clear hr0_1 hc0_1 hr1 hc1 hr2 hc2
  go_enter Try.func6, Try.ntmps6
  go_wp2_with (first
    | (go_at_call 26; have hq_ : w3 = w3 := rfl; clear hq_; (refine (galoislaw23_awake.calls true _ rfl).mono ?_); rintro e w4 ⟨rfl, hb4⟩; have hw4 := below_step (w := w3) (by repeat (first | (with_reducible first | exact Below.refl _ _ | apply below_alloc | apply pw_below_drewN | apply below_drew1) | exact Below.refl _ _)) hb4; replace HB := Aside0.mk (below_step HB.out hw4); replace HG := Aside0.mk (Kd.C_below HG.out hw4); replace hx0 := cell_move hx0 (fun hlt => hw4.block _ hlt); replace hx1 := cell_move hx1 (fun hlt => hw4.block _ hlt); clear hb4 hw4)
    | (go_at_call 28; have hq_ : w2 = w2 := rfl; clear hq_; (refine (PRf.galoisref23_Check.calls K2 n A0_1 c0_1 L ec _ (Kd.C_below HG.out (by repeat (first | (with_reducible first | exact Below.refl _ _ | apply below_alloc | apply pw_below_drewN | apply below_drew1) | exact Below.refl _ _))) HC.out H2.out).mono ?_); rintro e w3 ⟨rfl, hb3⟩; have hw3 := below_step (w := w2) (by repeat (first | (with_reducible first | exact Below.refl _ _ | apply below_alloc | apply pw_below_drewN | apply below_drew1) | exact Below.refl _ _)) hb3; replace HB := Aside0.mk (below_step HB.out hw3); replace HG := Aside0.mk (Kd.C_below HG.out hw3); replace hx0 := cell_move hx0 (fun hlt => hw3.block _ hlt); replace hx1 := cell_move hx1 (fun hlt => hw3.block _ hlt); clear hb3 hw3)
    | (go_at_call 41; have hq_ : w1 = w1 := rfl; clear hq_; (refine (PRf.galoisref23_Few.calls K1 n A0_1 c0_1 L true _ (Kd.C_below HG.out (by repeat (first | (with_reducible first | exact Below.refl _ _ | apply below_alloc | apply pw_below_drewN | apply below_drew1) | exact Below.refl _ _))) HC.out H1.out).mono ?_); rintro e w2 ⟨rfl, hb2⟩; have hw2 := below_step (w := w1) (by repeat (first | (with_reducible first | exact Below.refl _ _ | apply below_alloc | apply pw_below_drewN | apply below_drew1) | exact Below.refl _ _)) hb2; replace HB := Aside0.mk (below_step HB.out hw2); replace HG := Aside0.mk (Kd.C_below HG.out hw2); replace hx0 := cell_move hx0 (fun hlt => hw2.block _ hlt); replace hx1 := cell_move hx1 (fun hlt => hw2.block _ hlt); clear hb2 hw2)
    | (go_at_call 26; (refine (galoislaw23_awake.calls true _ rfl).mono ?_); rintro e w1 ⟨rfl, hb1⟩; have hw1 := below_step (w := (w.alloc (.cells #[.int .i64 n, .slice A0_1 L.length c0_1] 37))) (by repeat (first | (with_reducible first | exact Below.refl _ _ | apply below_alloc | apply pw_below_drewN | apply below_drew1) | exact Below.refl _ _)) hb1; replace HB := Aside0.mk (below_step HB.out hw1); replace HG := Aside0.mk (Kd.C_below HG.out hw1); replace hx0 := cell_move hx0 (fun hlt => hw1.block _ hlt); replace hx1 := cell_move hx1 (fun hlt => hw1.block _ hlt); clear hb1 hw1))
  go_ret
  exact ⟨rfl, below_then (below_alloc (Below.refl _ _) _) (by simp) HB.out⟩
set_option maxHeartbeats 16000000 in
set_option maxRecDepth 100000 in
theorem chains_deg (n : Int) (A0_1 : Option Addr) (c0_1 : Nat) (L : List (List Int)) (A1 : Option Addr) (c1 : Nat) (lw : List Int) (A2 : Option Addr) (c2 : Nat) (lp : List Int) (w : World) (hr0_1 : Kd.C (Kd.slice 3 (Kd.int .i64)) w A0_1 L.length L) (hc0_1 : L.length ≤ c0_1) (hr1 : Kd.C (Kd.int .u8) w A1 lw.length lw) (hc1 : lw.length ≤ c1) (hr2 : Kd.C (Kd.int .i64) w A2 lp.length lp) (hc2 : lp.length ≤ c2) (K1 : Nat) (h1 : PRf.galoisref23_Few.f K1 n L = some true) (K2 : Nat) (h2 : PRf.galoisref23_Check.f K2 n L = some 0) (h0 : 12 < n) : Calls Try.prog 6 #[.agg #[.int .i64 n, .slice A0_1 L.length c0_1], .slice A1 lw.length c1, .slice A2 lp.length c2] w fun e w' => e = .returned (.bool true) ∧ Below w.heap.size w w' := by
  have H1 := Aside0.mk h1
  have H2 := Aside0.mk h2
  have e1i : decide (12 < n) = true := decide_eq_true (by omega)
  clear h1 h2 h0
  have hu := Try.underlying37
  have HB : Aside0 (Below (w.alloc (.cells #[.int .i64 n, .slice A0_1 L.length c0_1] 37)).heap.size (w.alloc (.cells #[.int .i64 n, .slice A0_1 L.length c0_1] 37)) (w.alloc (.cells #[.int .i64 n, .slice A0_1 L.length c0_1] 37))) := ⟨Below.refl _ _⟩
  have HC := Aside0.mk hc0_1
  have HC2 := Aside0.mk hc2
  have HBW : Aside0 (Below w.heap.size w (w.alloc (.cells #[.int .i64 n, .slice A0_1 L.length c0_1] 37))) := ⟨below_alloc (Below.refl _ _) _⟩
  have HG := Aside0.mk (Kd.C_below hr0_1 HBW.out)
  have HWD := Aside0.mk (Kd.C_below hr1 HBW.out)
  have HPP := Aside0.mk (Kd.C_below hr2 HBW.out)
  have hx0 : (w.alloc (.cells #[.int .i64 n, .slice A0_1 L.length c0_1] 37)).cell? ⟨w.heap.size, 0, none⟩ = some (.int .i64 n) := by rw [World.cell?_alloc_at _ _ _ _ rfl]; rfl
  have hx1 : (w.alloc (.cells #[.int .i64 n, .slice A0_1 L.length c0_1] 37)).cell? ⟨w.heap.size, 1, none⟩ = some (.slice A0_1 L.length c0_1) := by rw [World.cell?_alloc_at _ _ _ _ rfl]; rfl
  clear hr0_1 hc0_1 hr1 hc1 hr2 hc2
  go_enter Try.func6, Try.ntmps6
  go_wp2_with (first
    | (go_at_call 26; have hq_ : w3 = w3 := rfl; clear hq_; (refine (galoislaw23_awake.calls true _ rfl).mono ?_); rintro e w4 ⟨rfl, hb4⟩; have hw4 := below_step (w := w3) (by repeat (first | (with_reducible first | exact Below.refl _ _ | apply below_alloc | apply pw_below_drewN | apply below_drew1) | exact Below.refl _ _)) hb4; replace HB := Aside0.mk (below_step HB.out hw4); replace HG := Aside0.mk (Kd.C_below HG.out hw4); replace hx0 := cell_move hx0 (fun hlt => hw4.block _ hlt); replace hx1 := cell_move hx1 (fun hlt => hw4.block _ hlt); clear hb4 hw4)
    | (go_at_call 28; have hq_ : w2 = w2 := rfl; clear hq_; (refine (PRf.galoisref23_Check.calls K2 n A0_1 c0_1 L 0 _ (Kd.C_below HG.out (by repeat (first | (with_reducible first | exact Below.refl _ _ | apply below_alloc | apply pw_below_drewN | apply below_drew1) | exact Below.refl _ _))) HC.out H2.out).mono ?_); rintro e w3 ⟨rfl, hb3⟩; have hw3 := below_step (w := w2) (by repeat (first | (with_reducible first | exact Below.refl _ _ | apply below_alloc | apply pw_below_drewN | apply below_drew1) | exact Below.refl _ _)) hb3; replace HB := Aside0.mk (below_step HB.out hw3); replace HG := Aside0.mk (Kd.C_below HG.out hw3); replace hx0 := cell_move hx0 (fun hlt => hw3.block _ hlt); replace hx1 := cell_move hx1 (fun hlt => hw3.block _ hlt); clear hb3 hw3)
    | (go_at_call 41; have hq_ : w1 = w1 := rfl; clear hq_; (refine (PRf.galoisref23_Few.calls K1 n A0_1 c0_1 L true _ (Kd.C_below HG.out (by repeat (first | (with_reducible first | exact Below.refl _ _ | apply below_alloc | apply pw_below_drewN | apply below_drew1) | exact Below.refl _ _))) HC.out H1.out).mono ?_); rintro e w2 ⟨rfl, hb2⟩; have hw2 := below_step (w := w1) (by repeat (first | (with_reducible first | exact Below.refl _ _ | apply below_alloc | apply pw_below_drewN | apply below_drew1) | exact Below.refl _ _)) hb2; replace HB := Aside0.mk (below_step HB.out hw2); replace HG := Aside0.mk (Kd.C_below HG.out hw2); replace hx0 := cell_move hx0 (fun hlt => hw2.block _ hlt); replace hx1 := cell_move hx1 (fun hlt => hw2.block _ hlt); clear hb2 hw2)
    | (go_at_call 26; (refine (galoislaw23_awake.calls true _ rfl).mono ?_); rintro e w1 ⟨rfl, hb1⟩; have hw1 := below_step (w := (w.alloc (.cells #[.int .i64 n, .slice A0_1 L.length c0_1] 37))) (by repeat (first | (with_reducible first | exact Below.refl _ _ | apply below_alloc | apply pw_below_drewN | apply below_drew1) | exact Below.refl _ _)) hb1; replace HB := Aside0.mk (below_step HB.out hw1); replace HG := Aside0.mk (Kd.C_below HG.out hw1); replace hx0 := cell_move hx0 (fun hlt => hw1.block _ hlt); replace hx1 := cell_move hx1 (fun hlt => hw1.block _ hlt); clear hb1 hw1))
  go_ret
  exact ⟨rfl, below_then (below_alloc (Below.refl _ _) _) (by simp) HB.out⟩
set_option maxHeartbeats 16000000 in
set_option maxRecDepth 100000 in
theorem chains_len (n : Int) (A0_1 : Option Addr) (c0_1 : Nat) (L : List (List Int)) (A1 : Option Addr) (c1 : Nat) (lw : List Int) (A2 : Option Addr) (c2 : Nat) (lp : List Int) (w : World) (hr0_1 : Kd.C (Kd.slice 3 (Kd.int .i64)) w A0_1 L.length L) (hc0_1 : L.length ≤ c0_1) (hr1 : Kd.C (Kd.int .u8) w A1 lw.length lw) (hc1 : lw.length ≤ c1) (hr2 : Kd.C (Kd.int .i64) w A2 lp.length lp) (hc2 : lp.length ≤ c2) (K1 : Nat) (h1 : PRf.galoisref23_Few.f K1 n L = some true) (K2 : Nat) (h2 : PRf.galoisref23_Check.f K2 n L = some 0) (h0 : n ≤ 12) (h3 : 6 < L.length) : Calls Try.prog 6 #[.agg #[.int .i64 n, .slice A0_1 L.length c0_1], .slice A1 lw.length c1, .slice A2 lp.length c2] w fun e w' => e = .returned (.bool true) ∧ Below w.heap.size w w' := by
  have H1 := Aside0.mk h1
  have H2 := Aside0.mk h2
  have e1i : decide (12 < n) = false := decide_eq_false (by omega)
  have e2i : decide (6 < (L.length : Int)) = true := decide_eq_true (by omega)
  have e2n : decide (6 < L.length) = true := decide_eq_true (by omega)
  clear h1 h2 h0 h3
  have hu := Try.underlying37
  have HB : Aside0 (Below (w.alloc (.cells #[.int .i64 n, .slice A0_1 L.length c0_1] 37)).heap.size (w.alloc (.cells #[.int .i64 n, .slice A0_1 L.length c0_1] 37)) (w.alloc (.cells #[.int .i64 n, .slice A0_1 L.length c0_1] 37))) := ⟨Below.refl _ _⟩
  have HC := Aside0.mk hc0_1
  have HC2 := Aside0.mk hc2
  have HBW : Aside0 (Below w.heap.size w (w.alloc (.cells #[.int .i64 n, .slice A0_1 L.length c0_1] 37))) := ⟨below_alloc (Below.refl _ _) _⟩
  have HG := Aside0.mk (Kd.C_below hr0_1 HBW.out)
  have HWD := Aside0.mk (Kd.C_below hr1 HBW.out)
  have HPP := Aside0.mk (Kd.C_below hr2 HBW.out)
  have hx0 : (w.alloc (.cells #[.int .i64 n, .slice A0_1 L.length c0_1] 37)).cell? ⟨w.heap.size, 0, none⟩ = some (.int .i64 n) := by rw [World.cell?_alloc_at _ _ _ _ rfl]; rfl
  have hx1 : (w.alloc (.cells #[.int .i64 n, .slice A0_1 L.length c0_1] 37)).cell? ⟨w.heap.size, 1, none⟩ = some (.slice A0_1 L.length c0_1) := by rw [World.cell?_alloc_at _ _ _ _ rfl]; rfl
  clear hr0_1 hc0_1 hr1 hc1 hr2 hc2
  go_enter Try.func6, Try.ntmps6
  go_wp2_with (first
    | (go_at_call 26; have hq_ : w3 = w3 := rfl; clear hq_; (refine (galoislaw23_awake.calls true _ rfl).mono ?_); rintro e w4 ⟨rfl, hb4⟩; have hw4 := below_step (w := w3) (by repeat (first | (with_reducible first | exact Below.refl _ _ | apply below_alloc | apply pw_below_drewN | apply below_drew1) | exact Below.refl _ _)) hb4; replace HB := Aside0.mk (below_step HB.out hw4); replace HG := Aside0.mk (Kd.C_below HG.out hw4); replace hx0 := cell_move hx0 (fun hlt => hw4.block _ hlt); replace hx1 := cell_move hx1 (fun hlt => hw4.block _ hlt); clear hb4 hw4)
    | (go_at_call 28; have hq_ : w2 = w2 := rfl; clear hq_; (refine (PRf.galoisref23_Check.calls K2 n A0_1 c0_1 L 0 _ (Kd.C_below HG.out (by repeat (first | (with_reducible first | exact Below.refl _ _ | apply below_alloc | apply pw_below_drewN | apply below_drew1) | exact Below.refl _ _))) HC.out H2.out).mono ?_); rintro e w3 ⟨rfl, hb3⟩; have hw3 := below_step (w := w2) (by repeat (first | (with_reducible first | exact Below.refl _ _ | apply below_alloc | apply pw_below_drewN | apply below_drew1) | exact Below.refl _ _)) hb3; replace HB := Aside0.mk (below_step HB.out hw3); replace HG := Aside0.mk (Kd.C_below HG.out hw3); replace hx0 := cell_move hx0 (fun hlt => hw3.block _ hlt); replace hx1 := cell_move hx1 (fun hlt => hw3.block _ hlt); clear hb3 hw3)
    | (go_at_call 41; have hq_ : w1 = w1 := rfl; clear hq_; (refine (PRf.galoisref23_Few.calls K1 n A0_1 c0_1 L true _ (Kd.C_below HG.out (by repeat (first | (with_reducible first | exact Below.refl _ _ | apply below_alloc | apply pw_below_drewN | apply below_drew1) | exact Below.refl _ _))) HC.out H1.out).mono ?_); rintro e w2 ⟨rfl, hb2⟩; have hw2 := below_step (w := w1) (by repeat (first | (with_reducible first | exact Below.refl _ _ | apply below_alloc | apply pw_below_drewN | apply below_drew1) | exact Below.refl _ _)) hb2; replace HB := Aside0.mk (below_step HB.out hw2); replace HG := Aside0.mk (Kd.C_below HG.out hw2); replace hx0 := cell_move hx0 (fun hlt => hw2.block _ hlt); replace hx1 := cell_move hx1 (fun hlt => hw2.block _ hlt); clear hb2 hw2)
    | (go_at_call 26; (refine (galoislaw23_awake.calls true _ rfl).mono ?_); rintro e w1 ⟨rfl, hb1⟩; have hw1 := below_step (w := (w.alloc (.cells #[.int .i64 n, .slice A0_1 L.length c0_1] 37))) (by repeat (first | (with_reducible first | exact Below.refl _ _ | apply below_alloc | apply pw_below_drewN | apply below_drew1) | exact Below.refl _ _)) hb1; replace HB := Aside0.mk (below_step HB.out hw1); replace HG := Aside0.mk (Kd.C_below HG.out hw1); replace hx0 := cell_move hx0 (fun hlt => hw1.block _ hlt); replace hx1 := cell_move hx1 (fun hlt => hw1.block _ hlt); clear hb1 hw1))
  go_ret
  exact ⟨rfl, below_then (below_alloc (Below.refl _ _) _) (by simp) HB.out⟩
set_option maxHeartbeats 16000000 in
set_option maxRecDepth 100000 in
theorem chains_word (n : Int) (A0_1 : Option Addr) (c0_1 : Nat) (L : List (List Int)) (A1 : Option Addr) (c1 : Nat) (lw : List Int) (A2 : Option Addr) (c2 : Nat) (lp : List Int) (w : World) (hr0_1 : Kd.C (Kd.slice 3 (Kd.int .i64)) w A0_1 L.length L) (hc0_1 : L.length ≤ c0_1) (hr1 : Kd.C (Kd.int .u8) w A1 lw.length lw) (hc1 : lw.length ≤ c1) (hr2 : Kd.C (Kd.int .i64) w A2 lp.length lp) (hc2 : lp.length ≤ c2) (K1 : Nat) (h1 : PRf.galoisref23_Few.f K1 n L = some true) (K2 : Nat) (h2 : PRf.galoisref23_Check.f K2 n L = some 0) (h0 : n ≤ 12) (h3 : L.length ≤ 6) (h4 : 40 < lw.length) : Calls Try.prog 6 #[.agg #[.int .i64 n, .slice A0_1 L.length c0_1], .slice A1 lw.length c1, .slice A2 lp.length c2] w fun e w' => e = .returned (.bool true) ∧ Below w.heap.size w w' := by
  have H1 := Aside0.mk h1
  have H2 := Aside0.mk h2
  have e1i : decide (12 < n) = false := decide_eq_false (by omega)
  have e2i : decide (6 < (L.length : Int)) = false := decide_eq_false (by omega)
  have e2n : decide (6 < L.length) = false := decide_eq_false (by omega)
  have e3i : decide (40 < (lw.length : Int)) = true := decide_eq_true (by omega)
  have e3n : decide (40 < lw.length) = true := decide_eq_true (by omega)
  clear h1 h2 h0 h3 h4
  have hu := Try.underlying37
  have HB : Aside0 (Below (w.alloc (.cells #[.int .i64 n, .slice A0_1 L.length c0_1] 37)).heap.size (w.alloc (.cells #[.int .i64 n, .slice A0_1 L.length c0_1] 37)) (w.alloc (.cells #[.int .i64 n, .slice A0_1 L.length c0_1] 37))) := ⟨Below.refl _ _⟩
  have HC := Aside0.mk hc0_1
  have HC2 := Aside0.mk hc2
  have HBW : Aside0 (Below w.heap.size w (w.alloc (.cells #[.int .i64 n, .slice A0_1 L.length c0_1] 37))) := ⟨below_alloc (Below.refl _ _) _⟩
  have HG := Aside0.mk (Kd.C_below hr0_1 HBW.out)
  have HWD := Aside0.mk (Kd.C_below hr1 HBW.out)
  have HPP := Aside0.mk (Kd.C_below hr2 HBW.out)
  have hx0 : (w.alloc (.cells #[.int .i64 n, .slice A0_1 L.length c0_1] 37)).cell? ⟨w.heap.size, 0, none⟩ = some (.int .i64 n) := by rw [World.cell?_alloc_at _ _ _ _ rfl]; rfl
  have hx1 : (w.alloc (.cells #[.int .i64 n, .slice A0_1 L.length c0_1] 37)).cell? ⟨w.heap.size, 1, none⟩ = some (.slice A0_1 L.length c0_1) := by rw [World.cell?_alloc_at _ _ _ _ rfl]; rfl
  clear hr0_1 hc0_1 hr1 hc1 hr2 hc2
  go_enter Try.func6, Try.ntmps6
  go_wp2_with (first
    | (go_at_call 26; have hq_ : w3 = w3 := rfl; clear hq_; (refine (galoislaw23_awake.calls true _ rfl).mono ?_); rintro e w4 ⟨rfl, hb4⟩; have hw4 := below_step (w := w3) (by repeat (first | (with_reducible first | exact Below.refl _ _ | apply below_alloc | apply pw_below_drewN | apply below_drew1) | exact Below.refl _ _)) hb4; replace HB := Aside0.mk (below_step HB.out hw4); replace HG := Aside0.mk (Kd.C_below HG.out hw4); replace hx0 := cell_move hx0 (fun hlt => hw4.block _ hlt); replace hx1 := cell_move hx1 (fun hlt => hw4.block _ hlt); clear hb4 hw4)
    | (go_at_call 28; have hq_ : w2 = w2 := rfl; clear hq_; (refine (PRf.galoisref23_Check.calls K2 n A0_1 c0_1 L 0 _ (Kd.C_below HG.out (by repeat (first | (with_reducible first | exact Below.refl _ _ | apply below_alloc | apply pw_below_drewN | apply below_drew1) | exact Below.refl _ _))) HC.out H2.out).mono ?_); rintro e w3 ⟨rfl, hb3⟩; have hw3 := below_step (w := w2) (by repeat (first | (with_reducible first | exact Below.refl _ _ | apply below_alloc | apply pw_below_drewN | apply below_drew1) | exact Below.refl _ _)) hb3; replace HB := Aside0.mk (below_step HB.out hw3); replace HG := Aside0.mk (Kd.C_below HG.out hw3); replace hx0 := cell_move hx0 (fun hlt => hw3.block _ hlt); replace hx1 := cell_move hx1 (fun hlt => hw3.block _ hlt); clear hb3 hw3)
    | (go_at_call 41; have hq_ : w1 = w1 := rfl; clear hq_; (refine (PRf.galoisref23_Few.calls K1 n A0_1 c0_1 L true _ (Kd.C_below HG.out (by repeat (first | (with_reducible first | exact Below.refl _ _ | apply below_alloc | apply pw_below_drewN | apply below_drew1) | exact Below.refl _ _))) HC.out H1.out).mono ?_); rintro e w2 ⟨rfl, hb2⟩; have hw2 := below_step (w := w1) (by repeat (first | (with_reducible first | exact Below.refl _ _ | apply below_alloc | apply pw_below_drewN | apply below_drew1) | exact Below.refl _ _)) hb2; replace HB := Aside0.mk (below_step HB.out hw2); replace HG := Aside0.mk (Kd.C_below HG.out hw2); replace hx0 := cell_move hx0 (fun hlt => hw2.block _ hlt); replace hx1 := cell_move hx1 (fun hlt => hw2.block _ hlt); clear hb2 hw2)
    | (go_at_call 26; (refine (galoislaw23_awake.calls true _ rfl).mono ?_); rintro e w1 ⟨rfl, hb1⟩; have hw1 := below_step (w := (w.alloc (.cells #[.int .i64 n, .slice A0_1 L.length c0_1] 37))) (by repeat (first | (with_reducible first | exact Below.refl _ _ | apply below_alloc | apply pw_below_drewN | apply below_drew1) | exact Below.refl _ _)) hb1; replace HB := Aside0.mk (below_step HB.out hw1); replace HG := Aside0.mk (Kd.C_below HG.out hw1); replace hx0 := cell_move hx0 (fun hlt => hw1.block _ hlt); replace hx1 := cell_move hx1 (fun hlt => hw1.block _ hlt); clear hb1 hw1))
  go_ret
  exact ⟨rfl, below_then (below_alloc (Below.refl _ _) _) (by simp) HB.out⟩
set_option maxHeartbeats 16000000 in
set_option maxRecDepth 100000 in
theorem chains_perm (n : Int) (A0_1 : Option Addr) (c0_1 : Nat) (L : List (List Int)) (A1 : Option Addr) (c1 : Nat) (lw : List Int) (A2 : Option Addr) (c2 : Nat) (lp : List Int) (w : World) (hr0_1 : Kd.C (Kd.slice 3 (Kd.int .i64)) w A0_1 L.length L) (hc0_1 : L.length ≤ c0_1) (hr1 : Kd.C (Kd.int .u8) w A1 lw.length lw) (hc1 : lw.length ≤ c1) (hr2 : Kd.C (Kd.int .i64) w A2 lp.length lp) (hc2 : lp.length ≤ c2) (K1 : Nat) (h1 : PRf.galoisref23_Few.f K1 n L = some true) (K2 : Nat) (h2 : PRf.galoisref23_Check.f K2 n L = some 0) (h0 : n ≤ 12) (h3 : L.length ≤ 6) (h4 : lw.length ≤ 40) (h5 : 40 < lp.length) : Calls Try.prog 6 #[.agg #[.int .i64 n, .slice A0_1 L.length c0_1], .slice A1 lw.length c1, .slice A2 lp.length c2] w fun e w' => e = .returned (.bool true) ∧ Below w.heap.size w w' := by
  have H1 := Aside0.mk h1
  have H2 := Aside0.mk h2
  have e1i : decide (12 < n) = false := decide_eq_false (by omega)
  have e2i : decide (6 < (L.length : Int)) = false := decide_eq_false (by omega)
  have e2n : decide (6 < L.length) = false := decide_eq_false (by omega)
  have e3i : decide (40 < (lw.length : Int)) = false := decide_eq_false (by omega)
  have e3n : decide (40 < lw.length) = false := decide_eq_false (by omega)
  have e4i : decide (40 < (lp.length : Int)) = true := decide_eq_true (by omega)
  have e4n : decide (40 < lp.length) = true := decide_eq_true (by omega)
  clear h1 h2 h0 h3 h4 h5
  have hu := Try.underlying37
  have HB : Aside0 (Below (w.alloc (.cells #[.int .i64 n, .slice A0_1 L.length c0_1] 37)).heap.size (w.alloc (.cells #[.int .i64 n, .slice A0_1 L.length c0_1] 37)) (w.alloc (.cells #[.int .i64 n, .slice A0_1 L.length c0_1] 37))) := ⟨Below.refl _ _⟩
  have HC := Aside0.mk hc0_1
  have HC2 := Aside0.mk hc2
  have HBW : Aside0 (Below w.heap.size w (w.alloc (.cells #[.int .i64 n, .slice A0_1 L.length c0_1] 37))) := ⟨below_alloc (Below.refl _ _) _⟩
  have HG := Aside0.mk (Kd.C_below hr0_1 HBW.out)
  have HWD := Aside0.mk (Kd.C_below hr1 HBW.out)
  have HPP := Aside0.mk (Kd.C_below hr2 HBW.out)
  have hx0 : (w.alloc (.cells #[.int .i64 n, .slice A0_1 L.length c0_1] 37)).cell? ⟨w.heap.size, 0, none⟩ = some (.int .i64 n) := by rw [World.cell?_alloc_at _ _ _ _ rfl]; rfl
  have hx1 : (w.alloc (.cells #[.int .i64 n, .slice A0_1 L.length c0_1] 37)).cell? ⟨w.heap.size, 1, none⟩ = some (.slice A0_1 L.length c0_1) := by rw [World.cell?_alloc_at _ _ _ _ rfl]; rfl
  clear hr0_1 hc0_1 hr1 hc1 hr2 hc2
  go_enter Try.func6, Try.ntmps6
  go_wp2_with (first
    | (go_at_call 26; have hq_ : w3 = w3 := rfl; clear hq_; (refine (galoislaw23_awake.calls true _ rfl).mono ?_); rintro e w4 ⟨rfl, hb4⟩; have hw4 := below_step (w := w3) (by repeat (first | (with_reducible first | exact Below.refl _ _ | apply below_alloc | apply pw_below_drewN | apply below_drew1) | exact Below.refl _ _)) hb4; replace HB := Aside0.mk (below_step HB.out hw4); replace HG := Aside0.mk (Kd.C_below HG.out hw4); replace hx0 := cell_move hx0 (fun hlt => hw4.block _ hlt); replace hx1 := cell_move hx1 (fun hlt => hw4.block _ hlt); clear hb4 hw4)
    | (go_at_call 28; have hq_ : w2 = w2 := rfl; clear hq_; (refine (PRf.galoisref23_Check.calls K2 n A0_1 c0_1 L 0 _ (Kd.C_below HG.out (by repeat (first | (with_reducible first | exact Below.refl _ _ | apply below_alloc | apply pw_below_drewN | apply below_drew1) | exact Below.refl _ _))) HC.out H2.out).mono ?_); rintro e w3 ⟨rfl, hb3⟩; have hw3 := below_step (w := w2) (by repeat (first | (with_reducible first | exact Below.refl _ _ | apply below_alloc | apply pw_below_drewN | apply below_drew1) | exact Below.refl _ _)) hb3; replace HB := Aside0.mk (below_step HB.out hw3); replace HG := Aside0.mk (Kd.C_below HG.out hw3); replace hx0 := cell_move hx0 (fun hlt => hw3.block _ hlt); replace hx1 := cell_move hx1 (fun hlt => hw3.block _ hlt); clear hb3 hw3)
    | (go_at_call 41; have hq_ : w1 = w1 := rfl; clear hq_; (refine (PRf.galoisref23_Few.calls K1 n A0_1 c0_1 L true _ (Kd.C_below HG.out (by repeat (first | (with_reducible first | exact Below.refl _ _ | apply below_alloc | apply pw_below_drewN | apply below_drew1) | exact Below.refl _ _))) HC.out H1.out).mono ?_); rintro e w2 ⟨rfl, hb2⟩; have hw2 := below_step (w := w1) (by repeat (first | (with_reducible first | exact Below.refl _ _ | apply below_alloc | apply pw_below_drewN | apply below_drew1) | exact Below.refl _ _)) hb2; replace HB := Aside0.mk (below_step HB.out hw2); replace HG := Aside0.mk (Kd.C_below HG.out hw2); replace hx0 := cell_move hx0 (fun hlt => hw2.block _ hlt); replace hx1 := cell_move hx1 (fun hlt => hw2.block _ hlt); clear hb2 hw2)
    | (go_at_call 26; (refine (galoislaw23_awake.calls true _ rfl).mono ?_); rintro e w1 ⟨rfl, hb1⟩; have hw1 := below_step (w := (w.alloc (.cells #[.int .i64 n, .slice A0_1 L.length c0_1] 37))) (by repeat (first | (with_reducible first | exact Below.refl _ _ | apply below_alloc | apply pw_below_drewN | apply below_drew1) | exact Below.refl _ _)) hb1; replace HB := Aside0.mk (below_step HB.out hw1); replace HG := Aside0.mk (Kd.C_below HG.out hw1); replace hx0 := cell_move hx0 (fun hlt => hw1.block _ hlt); replace hx1 := cell_move hx1 (fun hlt => hw1.block _ hlt); clear hb1 hw1))
  go_ret
  exact ⟨rfl, below_then (below_alloc (Below.refl _ _) _) (by simp) HB.out⟩
theorem row_C1 {W : World} {b : Nat} {A : Option Addr} {c : Nat} {p : List Int} (h : W.heap[b]? = some (.cells #[.slice A p.length c] 49 (0, 0))) (hp : Kd.C (Kd.int .i64) W A p.length p) (hc : p.length ≤ c) : Kd.C (Kd.slice 3 (Kd.int .i64)) W (some ⟨b, 0, none⟩) 1 [p] := by
  refine ⟨rfl, by omega, fun _ => ⟨_, rfl, fun j q hj => ?_⟩⟩
  rcases j with _ | j
  · simp only [List.getElem?_cons_zero, Option.some.injEq] at hj
    subst hj
    refine ⟨[.slice A p.length c], rfl, ⟨A, c, rfl, hc, hp⟩, fun i u hu => ?_⟩
    rcases i with _ | i
    · simp only [List.getElem?_cons_zero, Option.some.injEq] at hu
      subst hu
      exact blk_cell h 0
    · simp at hu
  · simp at hj
theorem cell_move2 {w w' : World} {a : Addr} {v : Value} (h : w.cell? a = some v) (hb : Below w.heap.size w w') : w'.cell? a = some v := (World.cell?_of_block (w := w) (w' := w') (hb.block _ (World.block_lt_of_cell? w _ h))).trans h
def LiftF (n pt : Nat) (L : List (List Int)) (o : List Int) (ws : List (List Int)) (k : Nat) : Prop := ∃ (wd : List Int) (y : Int), ws[k]? = some wd ∧ o[k]? = some y ∧ wd.length = n ∧ n ≤ 20 ∧ pt < n ∧ rd wd (pt : Int) = y ∧ (∀ i, i < pt → rd wd (i : Int) = (i : Int)) ∧ (∀ j, k = j + 1 → ∃ z, o[j]? = some z ∧ z < y) ∧ (∃ K1, PRf.galoisref22_Check.f K1 wd = some 0) ∧ ∃ K2, permgroup_Contains.f K2 (n : Int) L wd = some (true, 0)
theorem lifts_any {n pt k : Nat} {A0_1 : Option Addr} {c0_1 : Nat} {L : List (List Int)} {Ao : Option Addr} {co : Nat} {o : List Int} {Aw : Option Addr} {cw : Nat} {ws : List (List Int)} {w : World} (hG : Kd.C (Kd.slice 3 (Kd.int .i64)) w A0_1 L.length L) (hc0_1 : L.length ≤ c0_1) (hO : Kd.C (Kd.int .i64) w Ao o.length o) (hW : Kd.C (Kd.slice 3 (Kd.int .i64)) w Aw ws.length ws) (hL : LiftF n pt L o ws k) :
    Calls Try.prog 42 #[.agg #[.int .i64 (n : Int), .slice A0_1 L.length c0_1], .agg #[.int .i64 (pt : Int), .slice Ao o.length co, .slice Aw ws.length cw], .int .i64 (k : Int)] w fun e w' => e = .returned (.bool true) ∧ Below w.heap.size w w' := by
  obtain ⟨wd, y, e1, e2, e3, e4, e5, e6, e7, e8, ⟨K1, e9⟩, K2, e10⟩ := hL
  obtain ⟨k1, g1⟩ := List.getElem?_eq_some_iff.1 e1
  obtain ⟨k2, g2⟩ := List.getElem?_eq_some_iff.1 e2
  cases k with
  | zero => exact lifts_zero n pt A0_1 c0_1 L Ao co o Aw cw ws w hG hc0_1 hO hW k1 k2 wd g1 y g2 e3 e4 e5 e6 e7 K1 K2 e9 e10
  | succ j =>
    obtain ⟨z, z1, z2⟩ := e8 j rfl
    obtain ⟨k3, g3⟩ := List.getElem?_eq_some_iff.1 z1
    exact lifts_succ n pt j A0_1 c0_1 L Ao co o Aw cw ws w hG hc0_1 hO hW k1 k2 wd g1 y g2 e3 e4 e5 e6 e7 z g3 z2 K1 K2 e9 e10
theorem lev_cells {w : World} {g : Nat} {cl : List S71} (h : Kd.C k71 w (some ⟨g, 0, none⟩) cl.length cl) {i : Nat} {q : S71} (hq : cl[i]? = some q) : ∃ (Ao : Option Addr) (co : Nat) (Aw : Option Addr) (cw : Nat), w.cell? ⟨g, i * 3, none⟩ = some (.int .i64 q.f0) ∧ w.cell? ⟨g, i * 3 + 1, none⟩ = some (.slice Ao q.f1.length co) ∧ w.cell? ⟨g, i * 3 + 2, none⟩ = some (.slice Aw q.f2.length cw) ∧ Kd.C (Kd.int .i64) w Ao q.f1.length q.f1 ∧ Kd.C (Kd.slice 3 (Kd.int .i64)) w Aw q.f2.length q.f2 := by
  obtain ⟨_, _, h3⟩ := h
  have hi := (List.getElem?_eq_some_iff.1 hq).1
  obtain ⟨ad, ea, hc⟩ := h3 (by omega)
  obtain rfl := Option.some.inj ea
  obtain ⟨cs, hcl, hK, hcc⟩ := hc i q hq
  obtain ⟨A1, c1, A2, c2, rfl, hl1, hC1, hl2, hC2⟩ := k71_open hK
  have hsz : k71.sz = 3 := rfl
  rw [hsz] at hcc
  have e0 := hcc 0 _ rfl
  have e1 := hcc 1 _ rfl
  have e2 := hcc 2 _ rfl
  rw [add_plain] at e0 e1 e2
  exact ⟨A1, c1, A2, c2, e0, e1, e2, hC1, hC2⟩
end Go.Proofs.Ytmbldnoepjmhhaa.Bs
end
