/- Texts of this claim put together (wip/tools/merge.py). -/
import Derived.Test.YtmbldnoepjmhhaaZPermgroupCountsPPgx0
import Derived.Test.YtmbldnoepjmhhaaZPermgroupCountsPPgx1
import Derived.Test.YtmbldnoepjmhhaaZPermgroupCountsMg3
import Derived.Test.YtmbldnoepjmhhaaZPermgroupCountsMg4
import Derived.Test.YtmbldnoepjmhhaaZPermgroupCountsMg1
set_option linter.unusedVariables false
set_option linter.unusedSimpArgs false
section
/- The walk of galoislaw23.awake: the chapter's example. -/
namespace Go.Proofs.Ytmbldnoepjmhhaa.Bs
open Go.RowKit Go.Proofs.YtmbldnoepjmhhaaW.PrintWords Go.Proofs.YtmbldnoepjmhhaaW.PrintLast Go.Proofs.YtmbldnoepjmhhaaW.PrintMore Go.Proofs.Ytmbldnoepjmhhaa.Plain Go.Proofs.Ytmbldnoepjmhhaa.PBs Go.Proofs.Ytmbldnoepjmhhaa.PAll
theorem lit_ints (W : World) (base : Nat) (xs : List Int) (hb : base ≤ W.heap.size) (hl : xs.length ≤ 1000) : Kd.R (Kd.int .i64) 3 (W.alloc (.cells (xs.map (Value.int .i64)).toArray 3)) base (fun b => b = W.heap.size) (.slice (some ⟨W.heap.size, 0, none⟩) xs.length xs.length) xs := by
  refine ⟨fun k hk => ?_, ?_⟩
  · have : W.heap.size = k := by simpa [Value.ownBlock] using hk
    exact this.symm
  · exact OwnRow.lit (ps := xs) (inner := xs.map (Value.int .i64)) W base ⟨by rw [List.length_map]; exact (Nat.mul_one _).symm, fun j p hj => by
      have hjl := (List.getElem?_eq_some_iff.1 hj).1
      show ((xs.map (Value.int .i64)).drop (j * 1)).take 1 = [Value.int .i64 p]
      rw [Nat.mul_one, List.drop_eq_getElem_cons (by simpa using hjl)]
      simp [(List.getElem?_eq_some_iff.1 hj).2]⟩ hb (by show xs.length ≤ 9223372036854775807; omega)
theorem lit_kvs (W : World) (base : Nat) (svs : List Sv) (hb : base ≤ W.heap.size) (hl : svs.length ≤ 1000) : Kd.R kv 49 (W.alloc (.cells (svs.map svE).toArray 49)) base (fun b => b = W.heap.size) (.slice (some ⟨W.heap.size, 0, none⟩) svs.length svs.length) svs := by
  refine ⟨fun k hk => ?_, ?_⟩
  · have : W.heap.size = k := by simpa [Value.ownBlock] using hk
    exact this.symm
  · exact OwnRow.lit (ps := svs) (inner := svs.map svE) W base ⟨by rw [List.length_map]; exact (Nat.mul_one _).symm, fun j p hj => by
      have hjl := (List.getElem?_eq_some_iff.1 hj).1
      show ((svs.map svE).drop (j * 1)).take 1 = [svE p]
      rw [Nat.mul_one, List.drop_eq_getElem_cons (by simpa using hjl)]
      simp [(List.getElem?_eq_some_iff.1 hj).2]⟩ hb (by show svs.length ≤ 9223372036854775807; omega)
set_option maxRecDepth 100000 in
theorem aw_order : permgroup_Order.f 60 4 [[1, 2, 3, 0], [2, 1, 0, 3]] = some (8, 0) := by decide +kernel
set_option maxRecDepth 100000 in
theorem aw_reduced : Go.Proofs.Ytmbldnoepjmhhaa.PPg.permgroup_Reduced.f 60 4 [[1, 2, 3, 0], [2, 1, 0, 3]] = some (4, [[0, 3, 2, 1], [1, 0, 3, 2]], 0) := by decide +kernel
set_option maxRecDepth 100000 in
theorem aw_index : permgroup_Index.f 60 4 [[1, 2, 3, 0], [2, 1, 0, 3]] [1, 2, 3, 0] = some (3, 0) := by decide +kernel
def aw_l0 : S71 := ⟨0, [0, 1, 2, 3], [[0, 1, 2, 3], [1, 0, 3, 2], [2, 1, 0, 3], [3, 0, 1, 2]]⟩
def aw_l1 : S71 := ⟨1, [1, 3], [[0, 1, 2, 3], [0, 3, 2, 1]]⟩
set_option maxRecDepth 100000 in
theorem aw_chain : permgroup_Chain.f 60 4 [[1, 2, 3, 0], [2, 1, 0, 3]] = some ([aw_l0, aw_l1], 0) := by kernel_rfl
theorem aw_equal : Go.Proofs.Ytmbldnoepjmhhaa.PRf.galoisref23_Equal.f 60 4 [[0, 3, 2, 1], [1, 0, 3, 2]] 4 [[0, 3, 2, 1], [1, 0, 3, 2]] = some true := by decide +kernel
theorem aw_same : Go.Proofs.Ytmbldnoepjmhhaa.PRf.galoisref22_Same.f 60 [1, 3] [1, 3] = some true := by decide +kernel
theorem aw_cells {e base g n c : Nat} {ok : Nat → Prop} {w : World} (h : Kd.R k71 e w base ok (.slice (some ⟨g, 0, none⟩) n c) [aw_l0, aw_l1]) : w.cell? ⟨g, 3, none⟩ = some (.int .i64 1) ∧ ∃ A co, w.cell? ⟨g, 4, none⟩ = some (.slice A 2 co) ∧ 2 ≤ co ∧ Kd.C (Kd.int .i64) w A 2 [1, 3] := by
  obtain ⟨_, _, hC⟩ := Kd.R_reads' h
  obtain ⟨_, _, h3⟩ := hC
  obtain ⟨ad, ea, hc⟩ := h3 (by decide)
  obtain rfl := Option.some.inj ea
  obtain ⟨cs, hcl, hK, hcc⟩ := hc 1 aw_l1 rfl
  obtain ⟨A1, c1, A2, c2, rfl, hl1, hC1, _, _⟩ := k71_open hK
  exact ⟨hcc 0 _ rfl, A1, c1, hcc 1 _ rfl, hl1, hC1⟩
theorem lit_two (W : World) (xs ys : List Int) (hx : xs.length ≤ 1000) (hy : ys.length ≤ 1000) (b2 b3 : Nat) (h2 : b2 = W.heap.size + 1) (h3 : b3 = W.heap.size + 1 + 1) :
    Kd.C (Kd.slice 3 (Kd.int .i64)) (((W.alloc (.cells (xs.map (Value.int .i64)).toArray 3)).alloc (.cells (ys.map (Value.int .i64)).toArray 3)).alloc (.cells #[.slice (some ⟨W.heap.size, 0, none⟩) xs.length xs.length, .slice (some ⟨b2, 0, none⟩) ys.length ys.length] 49)) (some ⟨b3, 0, none⟩) 2 [xs, ys] := by
  have s1 : (W.alloc (.cells (xs.map (Value.int .i64)).toArray 3)).heap.size = b2 := by rw [h2]; simp
  have s2 : ((W.alloc (.cells (xs.map (Value.int .i64)).toArray 3)).alloc (.cells (ys.map (Value.int .i64)).toArray 3)).heap.size = b3 := by rw [h3]; simp
  have r1 := lit_ints W 0 xs (Nat.zero_le _) hx
  have r2 := lit_ints (W.alloc (.cells (xs.map (Value.int .i64)).toArray 3)) 0 ys (Nat.zero_le _) hy
  rw [s1] at r2
  have r3 := lit_kvs ((W.alloc (.cells (xs.map (Value.int .i64)).toArray 3)).alloc (.cells (ys.map (Value.int .i64)).toArray 3)) 0 [(some ⟨W.heap.size, 0, none⟩, xs.length, xs.length), (some ⟨b2, 0, none⟩, ys.length, ys.length)] (Nat.zero_le _) (by simp)
  rw [s2] at r3
  refine C_of_kv r3 rfl (fun i sv p e1 e2 => ?_)
  match i, e1, e2 with
  | 0, e1, e2 =>
    obtain rfl := Option.some.inj e1
    obtain rfl := Option.some.inj e2
    exact PermAt.of_R (Kd.R_below (Kd.R_below r1 (below_alloc (Below.refl _ _) _)) (below_alloc (Below.refl _ _) _))
  | 1, e1, e2 =>
    obtain rfl := Option.some.inj e1
    obtain rfl := Option.some.inj e2
    exact PermAt.of_R (Kd.R_below r2 (below_alloc (Below.refl _ _) _))
def galoislaw23_awake.f : Option Bool := some true
set_option maxHeartbeats 16000000 in
set_option maxRecDepth 100000 in
theorem galoislaw23_awake.calls (r : Bool) (w : World) (h : galoislaw23_awake.f = some r) : Calls Try.prog 26 #[] w fun e w' => e = .returned (.bool r) ∧ Below w.heap.size w w' := by
  obtain rfl : true = r := Option.some.inj h
  clear h
  have hu := Try.underlying37
  go_enter Try.func26, Try.ntmps26
  have HB := Aside0.mk (Below.refl w.heap.size w)
  go_wp2_with (first
    | (go_at_call 85; (refine (Go.Proofs.Ytmbldnoepjmhhaa.PPg.galoislaw23_example.calls 4 [[1, 2, 3, 0], [2, 1, 0, 3]] _ rfl).mono ?_); rintro e1 w1 ⟨v1, rfl, hr1, hb⟩; obtain ⟨A1, c1, e1, hl1, hC1⟩ := Kd.N_reads hr1; subst e1; have HC1 := Aside0.mk hC1; have HL1 := Aside0.mk hl1; have HB := Aside0.mk (below_step (w := w) (by first | exact HB.out | exact below_alloc HB.out _) hb); try (have HR := Aside0.mk (below_step (w := wR.alloc (.cells #[.int .i64 4, .slice A3 2 c3] 37)) (by first | exact HR.out | exact below_alloc HR.out _ | exact Below.refl _ _) hb)); clear hr1 hb hl1 hC1)
    | (go_at_call 29; (refine (permgroup_Order.calls 60 4 A1 c1 [[1, 2, 3, 0], [2, 1, 0, 3]] 8 0 _ HC1.out HL1.out aw_order).mono ?_); rintro e2 w2 ⟨rfl, hb⟩; have HB := Aside0.mk (below_step (w := w) HB.out hb); clear hb)
    | (go_at_call 31; (refine (Go.Proofs.Ytmbldnoepjmhhaa.PPg.permgroup_Reduced.calls 60 4 A1 c1 [[1, 2, 3, 0], [2, 1, 0, 3]] 4 [[0, 3, 2, 1], [1, 0, 3, 2]] 0 _ HC1.out HL1.out aw_reduced).mono ?_); rintro e3 wR ⟨v3, rfl, hr3, hb⟩; obtain ⟨A3, c3, e3, hl3, hC3⟩ := Kd.R_reads (Kd.S_R hr3); subst e3; have HC3 := Aside0.mk hC3; have HL3 := Aside0.mk hl3; have HB := Aside0.mk (below_step (w := w) HB.out hb); have HR := Aside0.mk True.intro; clear hr3 hb hl3 hC3)
    | (go_at_call 58; (refine (permgroup_Index.calls 60 4 A1 c1 [[1, 2, 3, 0], [2, 1, 0, 3]] (some ⟨w1.heap.size, 0, none⟩) 4 [1, 2, 3, 0] 3 0 _ (Kd.C_below HC1.out (below_alloc (Below.refl _ _) _)) HL1.out (Kd.R_reads' (lit_ints w1 0 [1, 2, 3, 0] (Nat.zero_le _) (by decide))).2.2 (by decide) aw_index).mono ?_); rintro e4 w4 ⟨rfl, hb⟩; have HB := Aside0.mk (below_step (w := w) (below_alloc HB.out _) hb); have HR := Aside0.mk (below_step (w := wR.alloc (.cells #[.int .i64 4, .slice A3 2 c3] 37)) (below_alloc HR.out _) hb); clear hb)
    | (go_at_call 32; (refine (permgroup_Chain.calls 60 4 A1 c1 [[1, 2, 3, 0], [2, 1, 0, 3]] [aw_l0, aw_l1] 0 _ HC1.out HL1.out aw_chain).mono ?_); rintro e5 wC ⟨v5, rfl, hr5, hb⟩; obtain ⟨gc, cc, e5, _, _, _, _⟩ := Kd.R_form hr5 (by decide); subst e5; obtain ⟨hk3, Ao, co, hk4, hlo, hCo⟩ := aw_cells hr5; have HK4 := Aside0.mk hk4; have HLo := Aside0.mk hlo; have HCo := Aside0.mk hCo; clear hk4 hlo hCo; have HB := Aside0.mk (below_step (w := w) HB.out hb); have HR := Aside0.mk (below_step (w := wR.alloc (.cells #[.int .i64 4, .slice A3 2 c3] 37)) HR.out hb); have hg0 := cell_move (w' := wC) (show (wR.alloc (.cells #[.int .i64 4, .slice A3 2 c3] 37)).cell? ⟨wR.heap.size, 0, none⟩ = some (.int .i64 4) from by rw [World.cell?_alloc_at _ _ _ _ rfl]; rfl) (fun hlt => HR.out.block _ hlt); have hg1 := cell_move (w' := wC) (show (wR.alloc (.cells #[.int .i64 4, .slice A3 2 c3] 37)).cell? ⟨wR.heap.size, 1, none⟩ = some (.slice A3 2 c3) from by rw [World.cell?_alloc_at _ _ _ _ rfl]; rfl) (fun hlt => HR.out.block _ hlt); clear hr5 hb)
    | (go_at_call 37; (refine (Go.Proofs.Ytmbldnoepjmhhaa.PRf.galoisref23_Equal.calls 60 4 A3 c3 [[0, 3, 2, 1], [1, 0, 3, 2]] 4 (some ⟨wC.heap.size + 1 + 1, 0, none⟩) 2 [[0, 3, 2, 1], [1, 0, 3, 2]] true _ (Kd.C_below HC3.out (below_step (w := wR) (below_alloc (Below.refl _ _) _) (by repeat (first | exact HR.out | apply below_alloc)))) HL3.out (lit_two wC [0, 3, 2, 1] [1, 0, 3, 2] (by decide) (by decide) _ _ rfl rfl) (by decide) aw_equal).mono ?_); rintro e6 w6 ⟨rfl, hb⟩; have HB := Aside0.mk (below_step (w := w) (by repeat (first | exact HB.out | apply below_alloc)) hb); have HB6 := Aside0.mk (below_step (w := wC) (by repeat (first | exact Below.refl _ _ | apply below_alloc)) hb); have hk6 := cell_move (w' := w6) HK4.out (fun hlt => HB6.out.block _ hlt); clear hb)
    | (go_at_call 14; (refine (Go.Proofs.Ytmbldnoepjmhhaa.PRf.galoisref22_Same.calls 60 Ao co [1, 3] (some ⟨w6.heap.size, 0, none⟩) 2 [1, 3] true _ (Kd.C_below HCo.out (below_alloc HB6.out _)) HLo.out (Kd.R_reads' (lit_ints w6 0 [1, 3] (Nat.zero_le _) (by decide))).2.2 (by decide) aw_same).mono ?_); rintro e7 w7 ⟨rfl, hd⟩; have hq := hd.out; obtain ⟨q, rfl⟩ := hq; have HB := Aside0.mk (pw_below_drewN (below_alloc HB.out (.cells #[.int .i64 1, .int .i64 3] 3)) q); clear hd))
  go_ret
  exact ⟨rfl, HB.out⟩
end Go.Proofs.Ytmbldnoepjmhhaa.Bs
end
section
/- The walk of PermgroupCounts, by values. -/
namespace Go.Proofs.Ytmbldnoepjmhhaa.Bs
open Go.RowKit Go.Proofs.YtmbldnoepjmhhaaW.PrintWords Go.Proofs.YtmbldnoepjmhhaaW.PrintLast Go.Proofs.YtmbldnoepjmhhaaW.PrintMore Go.Proofs.Ytmbldnoepjmhhaa.Plain Go.Proofs.Ytmbldnoepjmhhaa.PBs Go.Proofs.Ytmbldnoepjmhhaa.PAll
theorem PermAt.open {w : World} {A : Option Addr} {n c : Nat} {p : List Int} (h : PermAt w (.slice A n c) p) : n = p.length ∧ p.length ≤ c ∧ Kd.C (Kd.int .i64) w A p.length p := by
  obtain ⟨A', c', e, hle, hC⟩ := h
  injection e with e1 e2 e3
  subst e1; subst e3
  exact ⟨e2, hle, hC⟩
theorem use_fact {T G : Prop} (h : T) (g : T → G) : G := g h
theorem heap_push (w : World) (o : Obj) : (w.alloc o).heap = w.heap.push o := rfl
theorem heap_drew (w : World) : w.drew.heap = w.heap := rfl
theorem one_C {W : World} {b : Nat} {x : Int} (h : W.heap[b]? = some (.cells #[.int .i64 x] 3 (0, 0))) : Kd.C (Kd.int .i64) W (some ⟨b, 0, none⟩) 1 [x] := by
  refine ⟨rfl, by omega, fun _ => ⟨_, rfl, fun j p hj => ?_⟩⟩
  rcases j with _ | j
  · simp only [List.getElem?_cons_zero, Option.some.injEq] at hj
    subst hj
    refine ⟨[.int .i64 x], rfl, rfl, fun i u hu => ?_⟩
    rcases i with _ | i
    · simp only [List.getElem?_cons_zero, Option.some.injEq] at hu
      subst hu
      exact blk_cell h 0
    · simp at hu
  · simp at hj
theorem lev_head {e base g n c : Nat} {ok : Nat → Prop} {w : World} {l0 : S71} {rest : List S71} (h : Kd.R k71 e w base ok (.slice (some ⟨g, 0, none⟩) n c) (l0 :: rest)) : ∃ A co, w.cell? ⟨g, 0, none⟩ = some (.int .i64 l0.f0) ∧ w.cell? ⟨g, 1, none⟩ = some (.slice A l0.f1.length co) := by
  obtain ⟨_, _, hC⟩ := Kd.R_reads' h
  obtain ⟨_, _, h3⟩ := hC
  obtain ⟨ad, ea, hc⟩ := h3 (Nat.succ_pos _)
  obtain rfl := Option.some.inj ea
  obtain ⟨cs, hcl, hK, hcc⟩ := hc 0 l0 rfl
  obtain ⟨A1, c1, A2, c2, rfl, hl1, hC1, _, _⟩ := k71_open hK
  exact ⟨A1, c1, hcc 0 _ rfl, hcc 1 _ rfl⟩
set_option maxHeartbeats 16000000 in
set_option maxRecDepth 100000 in
theorem counts_few (n i j : Int) (A0_1 : Option Addr) (c0_1 : Nat) (L : List (List Int)) (w : World) (hr0_1 : Kd.C (Kd.slice 3 (Kd.int .i64)) w A0_1 L.length L) (hc0_1 : L.length ≤ c0_1) (K1 : Nat) (h1 : PRf.galoisref23_Few.f K1 n L = some false) : Calls Try.prog 8 #[.agg #[.int .i64 n, .slice A0_1 L.length c0_1], .int .u32 i, .int .u32 j] w fun e w' => e = .returned (.bool true) ∧ Below w.heap.size w w' := by
  have H1 := Aside0.mk h1
  clear h1
  have hu := Try.underlying37
  have HB : Aside0 (Below (w.alloc (.cells #[.int .i64 n, .slice A0_1 L.length c0_1] 37)).heap.size (w.alloc (.cells #[.int .i64 n, .slice A0_1 L.length c0_1] 37)) (w.alloc (.cells #[.int .i64 n, .slice A0_1 L.length c0_1] 37))) := ⟨Below.refl _ _⟩
  have HC := Aside0.mk hc0_1
  have HG := Aside0.mk (Kd.C_below hr0_1 (below_alloc (Below.refl w.heap.size w) (.cells #[.int .i64 n, .slice A0_1 L.length c0_1] 37)))
  have hx0 : (w.alloc (.cells #[.int .i64 n, .slice A0_1 L.length c0_1] 37)).cell? ⟨w.heap.size, 0, none⟩ = some (.int .i64 n) := by rw [World.cell?_alloc_at _ _ _ _ rfl]; rfl
  have hx1 : (w.alloc (.cells #[.int .i64 n, .slice A0_1 L.length c0_1] 37)).cell? ⟨w.heap.size, 1, none⟩ = some (.slice A0_1 L.length c0_1) := by rw [World.cell?_alloc_at _ _ _ _ rfl]; rfl
  clear hr0_1 hc0_1
  go_enter Try.func8, Try.ntmps8
  go_wp2_with (first
    | (go_at_call 26; have hq_ : w2 = w2 := rfl; clear hq_; (refine (galoislaw23_awake.calls true _ rfl).mono ?_); rintro e w3 ⟨rfl, hb3⟩; have hw3 := below_step (w := w2) (by repeat (first | (with_reducible first | exact Below.refl _ _ | apply below_alloc | apply pw_below_drewN | apply below_drew1) | exact Below.refl _ _)) hb3; replace HB := Aside0.mk (below_step HB.out hw3); replace HG := Aside0.mk (Kd.C_below HG.out hw3); replace hx0 := cell_move hx0 (fun hlt => hw3.block _ hlt); replace hx1 := cell_move hx1 (fun hlt => hw3.block _ hlt); clear hb3 hw3)
    | (go_at_call 41; have hq_ : w1 = w1 := rfl; clear hq_; (refine (PRf.galoisref23_Few.calls K1 n A0_1 c0_1 L false _ (Kd.C_below HG.out (by repeat (first | (with_reducible first | exact Below.refl _ _ | apply below_alloc | apply pw_below_drewN | apply below_drew1) | exact Below.refl _ _))) HC.out H1.out).mono ?_); rintro e w2 ⟨rfl, hb2⟩; have hw2 := below_step (w := w1) (by repeat (first | (with_reducible first | exact Below.refl _ _ | apply below_alloc | apply pw_below_drewN | apply below_drew1) | exact Below.refl _ _)) hb2; replace HB := Aside0.mk (below_step HB.out hw2); replace HG := Aside0.mk (Kd.C_below HG.out hw2); replace hx0 := cell_move hx0 (fun hlt => hw2.block _ hlt); replace hx1 := cell_move hx1 (fun hlt => hw2.block _ hlt); clear hb2 hw2)
    | (go_at_call 26; (refine (galoislaw23_awake.calls true _ rfl).mono ?_); rintro e w1 ⟨rfl, hb1⟩; have hw1 := below_step (w := (w.alloc (.cells #[.int .i64 n, .slice A0_1 L.length c0_1] 37))) (by repeat (first | (with_reducible first | exact Below.refl _ _ | apply below_alloc | apply pw_below_drewN | apply below_drew1) | exact Below.refl _ _)) hb1; replace HB := Aside0.mk (below_step HB.out hw1); replace HG := Aside0.mk (Kd.C_below HG.out hw1); replace hx0 := cell_move hx0 (fun hlt => hw1.block _ hlt); replace hx1 := cell_move hx1 (fun hlt => hw1.block _ hlt); clear hb1 hw1))
  go_ret
  exact ⟨rfl, below_then (below_alloc (Below.refl _ _) _) (by simp) HB.out⟩
set_option maxHeartbeats 16000000 in
set_option maxRecDepth 100000 in
theorem counts_chk (n i j : Int) (A0_1 : Option Addr) (c0_1 : Nat) (L : List (List Int)) (w : World) (hr0_1 : Kd.C (Kd.slice 3 (Kd.int .i64)) w A0_1 L.length L) (hc0_1 : L.length ≤ c0_1) (K1 : Nat) (h1 : PRf.galoisref23_Few.f K1 n L = some true) (ec : Int) (h0 : ec ≠ 0) (K2 : Nat) (h2 : PRf.galoisref23_Check.f K2 n L = some ec) : Calls Try.prog 8 #[.agg #[.int .i64 n, .slice A0_1 L.length c0_1], .int .u32 i, .int .u32 j] w fun e w' => e = .returned (.bool true) ∧ Below w.heap.size w w' := by
  have H1 := Aside0.mk h1
  have H2 := Aside0.mk h2
  have e1 : (ec == 0) = false := beq_eq_false_iff_ne.mpr h0
  have e2 : (ec != 0) = true := bne_iff_ne.mpr h0
  clear h1 h2 h0
  have hu := Try.underlying37
  have HB : Aside0 (Below (w.alloc (.cells #[.int .i64 n, .slice A0_1 L.length c0_1] 37)).heap.size (w.alloc (.cells #[.int .i64 n, .slice A0_1 L.length c0_1] 37)) (w.alloc (.cells #[.int .i64 n, .slice A0_1 L.length c0_1] 37))) := ⟨Below.refl _ _⟩
  have HC := Aside0.mk hc0_1
  have HG := Aside0.mk (Kd.C_below hr0_1 (below_alloc (Below.refl w.heap.size w) (.cells #[.int .i64 n, .slice A0_1 L.length c0_1] 37)))
  have hx0 : (w.alloc (.cells #[.int .i64 n, .slice A0_1 L.length c0_1] 37)).cell? ⟨w.heap.size, 0, none⟩ = some (.int .i64 n) := by rw [World.cell?_alloc_at _ _ _ _ rfl]; rfl
  have hx1 : (w.alloc (.cells #[.int .i64 n, .slice A0_1 L.length c0_1] 37)).cell? ⟨w.heap.size, 1, none⟩ = some (.slice A0_1 L.length c0_1) := by rw [World.cell?_alloc_at _ _ _ _ rfl]; rfl
  clear hr0_1 hc0_1
  go_enter Try.func8, Try.ntmps8
  go_wp2_with (first
    | (go_at_call 26; have hq_ : w3 = w3 := rfl; clear hq_; (refine (galoislaw23_awake.calls true _ rfl).mono ?_); rintro e w4 ⟨rfl, hb4⟩; have hw4 := below_step (w := w3) (by repeat (first | (with_reducible first | exact Below.refl _ _ | apply below_alloc | apply pw_below_drewN | apply below_drew1) | exact Below.refl _ _)) hb4; replace HB := Aside0.mk (below_step HB.out hw4); replace HG := Aside0.mk (Kd.C_below HG.out hw4); replace hx0 := cell_move hx0 (fun hlt => hw4.block _ hlt); replace hx1 := cell_move hx1 (fun hlt => hw4.block _ hlt); clear hb4 hw4)
    | (go_at_call 28; have hq_ : w2 = w2 := rfl; clear hq_; (refine (PRf.galoisref23_Check.calls K2 n A0_1 c0_1 L ec _ (Kd.C_below HG.out (by repeat (first | (with_reducible first | exact Below.refl _ _ | apply below_alloc | apply pw_below_drewN | apply below_drew1) | exact Below.refl _ _))) HC.out H2.out).mono ?_); rintro e w3 ⟨rfl, hb3⟩; have hw3 := below_step (w := w2) (by repeat (first | (with_reducible first | exact Below.refl _ _ | apply below_alloc | apply pw_below_drewN | apply below_drew1) | exact Below.refl _ _)) hb3; replace HB := Aside0.mk (below_step HB.out hw3); replace HG := Aside0.mk (Kd.C_below HG.out hw3); replace hx0 := cell_move hx0 (fun hlt => hw3.block _ hlt); replace hx1 := cell_move hx1 (fun hlt => hw3.block _ hlt); clear hb3 hw3)
    | (go_at_call 41; have hq_ : w1 = w1 := rfl; clear hq_; (refine (PRf.galoisref23_Few.calls K1 n A0_1 c0_1 L true _ (Kd.C_below HG.out (by repeat (first | (with_reducible first | exact Below.refl _ _ | apply below_alloc | apply pw_below_drewN | apply below_drew1) | exact Below.refl _ _))) HC.out H1.out).mono ?_); rintro e w2 ⟨rfl, hb2⟩; have hw2 := below_step (w := w1) (by repeat (first | (with_reducible first | exact Below.refl _ _ | apply below_alloc | apply pw_below_drewN | apply below_drew1) | exact Below.refl _ _)) hb2; replace HB := Aside0.mk (below_step HB.out hw2); replace HG := Aside0.mk (Kd.C_below HG.out hw2); replace hx0 := cell_move hx0 (fun hlt => hw2.block _ hlt); replace hx1 := cell_move hx1 (fun hlt => hw2.block _ hlt); clear hb2 hw2)
    | (go_at_call 26; (refine (galoislaw23_awake.calls true _ rfl).mono ?_); rintro e w1 ⟨rfl, hb1⟩; have hw1 := below_step (w := (w.alloc (.cells #[.int .i64 n, .slice A0_1 L.length c0_1] 37))) (by repeat (first | (with_reducible first | exact Below.refl _ _ | apply below_alloc | apply pw_below_drewN | apply below_drew1) | exact Below.refl _ _)) hb1; replace HB := Aside0.mk (below_step HB.out hw1); replace HG := Aside0.mk (Kd.C_below HG.out hw1); replace hx0 := cell_move hx0 (fun hlt => hw1.block _ hlt); replace hx1 := cell_move hx1 (fun hlt => hw1.block _ hlt); clear hb1 hw1))
  go_ret
  exact ⟨rfl, below_then (below_alloc (Below.refl _ _) _) (by simp) HB.out⟩
set_option maxHeartbeats 16000000 in
set_option maxRecDepth 100000 in
theorem counts_deg (n i j : Int) (A0_1 : Option Addr) (c0_1 : Nat) (L : List (List Int)) (w : World) (hr0_1 : Kd.C (Kd.slice 3 (Kd.int .i64)) w A0_1 L.length L) (hc0_1 : L.length ≤ c0_1) (K1 : Nat) (h1 : PRf.galoisref23_Few.f K1 n L = some true) (K2 : Nat) (h2 : PRf.galoisref23_Check.f K2 n L = some 0) (h0 : 12 < n) : Calls Try.prog 8 #[.agg #[.int .i64 n, .slice A0_1 L.length c0_1], .int .u32 i, .int .u32 j] w fun e w' => e = .returned (.bool true) ∧ Below w.heap.size w w' := by
  have H1 := Aside0.mk h1
  have H2 := Aside0.mk h2
  have e1 : decide (12 < n) = true := decide_eq_true h0
  clear h1 h2 h0
  have hu := Try.underlying37
  have HB : Aside0 (Below (w.alloc (.cells #[.int .i64 n, .slice A0_1 L.length c0_1] 37)).heap.size (w.alloc (.cells #[.int .i64 n, .slice A0_1 L.length c0_1] 37)) (w.alloc (.cells #[.int .i64 n, .slice A0_1 L.length c0_1] 37))) := ⟨Below.refl _ _⟩
  have HC := Aside0.mk hc0_1
  have HG := Aside0.mk (Kd.C_below hr0_1 (below_alloc (Below.refl w.heap.size w) (.cells #[.int .i64 n, .slice A0_1 L.length c0_1] 37)))
  have hx0 : (w.alloc (.cells #[.int .i64 n, .slice A0_1 L.length c0_1] 37)).cell? ⟨w.heap.size, 0, none⟩ = some (.int .i64 n) := by rw [World.cell?_alloc_at _ _ _ _ rfl]; rfl
  have hx1 : (w.alloc (.cells #[.int .i64 n, .slice A0_1 L.length c0_1] 37)).cell? ⟨w.heap.size, 1, none⟩ = some (.slice A0_1 L.length c0_1) := by rw [World.cell?_alloc_at _ _ _ _ rfl]; rfl
  clear hr0_1 hc0_1
  go_enter Try.func8, Try.ntmps8
  go_wp2_with (first
    | (go_at_call 26; have hq_ : w3 = w3 := rfl; clear hq_; (refine (galoislaw23_awake.calls true _ rfl).mono ?_); rintro e w4 ⟨rfl, hb4⟩; have hw4 := below_step (w := w3) (by repeat (first | (with_reducible first | exact Below.refl _ _ | apply below_alloc | apply pw_below_drewN | apply below_drew1) | exact Below.refl _ _)) hb4; replace HB := Aside0.mk (below_step HB.out hw4); replace HG := Aside0.mk (Kd.C_below HG.out hw4); replace hx0 := cell_move hx0 (fun hlt => hw4.block _ hlt); replace hx1 := cell_move hx1 (fun hlt => hw4.block _ hlt); clear hb4 hw4)
    | (go_at_call 28; have hq_ : w2 = w2 := rfl; clear hq_; (refine (PRf.galoisref23_Check.calls K2 n A0_1 c0_1 L 0 _ (Kd.C_below HG.out (by repeat (first | (with_reducible first | exact Below.refl _ _ | apply below_alloc | apply pw_below_drewN | apply below_drew1) | exact Below.refl _ _))) HC.out H2.out).mono ?_); rintro e w3 ⟨rfl, hb3⟩; have hw3 := below_step (w := w2) (by repeat (first | (with_reducible first | exact Below.refl _ _ | apply below_alloc | apply pw_below_drewN | apply below_drew1) | exact Below.refl _ _)) hb3; replace HB := Aside0.mk (below_step HB.out hw3); replace HG := Aside0.mk (Kd.C_below HG.out hw3); replace hx0 := cell_move hx0 (fun hlt => hw3.block _ hlt); replace hx1 := cell_move hx1 (fun hlt => hw3.block _ hlt); clear hb3 hw3)
    | (go_at_call 41; have hq_ : w1 = w1 := rfl; clear hq_; (refine (PRf.galoisref23_Few.calls K1 n A0_1 c0_1 L true _ (Kd.C_below HG.out (by repeat (first | (with_reducible first | exact Below.refl _ _ | apply below_alloc | apply pw_below_drewN | apply below_drew1) | exact Below.refl _ _))) HC.out H1.out).mono ?_); rintro e w2 ⟨rfl, hb2⟩; have hw2 := below_step (w := w1) (by repeat (first | (with_reducible first | exact Below.refl _ _ | apply below_alloc | apply pw_below_drewN | apply below_drew1) | exact Below.refl _ _)) hb2; replace HB := Aside0.mk (below_step HB.out hw2); replace HG := Aside0.mk (Kd.C_below HG.out hw2); replace hx0 := cell_move hx0 (fun hlt => hw2.block _ hlt); replace hx1 := cell_move hx1 (fun hlt => hw2.block _ hlt); clear hb2 hw2)
    | (go_at_call 26; (refine (galoislaw23_awake.calls true _ rfl).mono ?_); rintro e w1 ⟨rfl, hb1⟩; have hw1 := below_step (w := (w.alloc (.cells #[.int .i64 n, .slice A0_1 L.length c0_1] 37))) (by repeat (first | (with_reducible first | exact Below.refl _ _ | apply below_alloc | apply pw_below_drewN | apply below_drew1) | exact Below.refl _ _)) hb1; replace HB := Aside0.mk (below_step HB.out hw1); replace HG := Aside0.mk (Kd.C_below HG.out hw1); replace hx0 := cell_move hx0 (fun hlt => hw1.block _ hlt); replace hx1 := cell_move hx1 (fun hlt => hw1.block _ hlt); clear hb1 hw1))
  go_ret
  exact ⟨rfl, below_then (below_alloc (Below.refl _ _) _) (by simp) HB.out⟩
set_option maxHeartbeats 16000000 in
set_option maxRecDepth 100000 in
theorem counts_len (n i j : Int) (A0_1 : Option Addr) (c0_1 : Nat) (L : List (List Int)) (w : World) (hr0_1 : Kd.C (Kd.slice 3 (Kd.int .i64)) w A0_1 L.length L) (hc0_1 : L.length ≤ c0_1) (K1 : Nat) (h1 : PRf.galoisref23_Few.f K1 n L = some true) (K2 : Nat) (h2 : PRf.galoisref23_Check.f K2 n L = some 0) (h0 : n ≤ 12) (h3 : 6 < L.length) : Calls Try.prog 8 #[.agg #[.int .i64 n, .slice A0_1 L.length c0_1], .int .u32 i, .int .u32 j] w fun e w' => e = .returned (.bool true) ∧ Below w.heap.size w w' := by
  have H1 := Aside0.mk h1
  have H2 := Aside0.mk h2
  have e1 : decide (12 < n) = false := decide_eq_false (by omega)
  have e3 : decide (6 < (L.length : Int)) = true := decide_eq_true (by omega)
  have e4 : decide (6 < L.length) = true := decide_eq_true (by omega)
  clear h1 h2 h0 h3
  have hu := Try.underlying37
  have HB : Aside0 (Below (w.alloc (.cells #[.int .i64 n, .slice A0_1 L.length c0_1] 37)).heap.size (w.alloc (.cells #[.int .i64 n, .slice A0_1 L.length c0_1] 37)) (w.alloc (.cells #[.int .i64 n, .slice A0_1 L.length c0_1] 37))) := ⟨Below.refl _ _⟩
  have HC := Aside0.mk hc0_1
  have HG := Aside0.mk (Kd.C_below hr0_1 (below_alloc (Below.refl w.heap.size w) (.cells #[.int .i64 n, .slice A0_1 L.length c0_1] 37)))
  have hx0 : (w.alloc (.cells #[.int .i64 n, .slice A0_1 L.length c0_1] 37)).cell? ⟨w.heap.size, 0, none⟩ = some (.int .i64 n) := by rw [World.cell?_alloc_at _ _ _ _ rfl]; rfl
  have hx1 : (w.alloc (.cells #[.int .i64 n, .slice A0_1 L.length c0_1] 37)).cell? ⟨w.heap.size, 1, none⟩ = some (.slice A0_1 L.length c0_1) := by rw [World.cell?_alloc_at _ _ _ _ rfl]; rfl
  clear hr0_1 hc0_1
  go_enter Try.func8, Try.ntmps8
  go_wp2_with (first
    | (go_at_call 26; have hq_ : w3 = w3 := rfl; clear hq_; (refine (galoislaw23_awake.calls true _ rfl).mono ?_); rintro e w4 ⟨rfl, hb4⟩; have hw4 := below_step (w := w3) (by repeat (first | (with_reducible first | exact Below.refl _ _ | apply below_alloc | apply pw_below_drewN | apply below_drew1) | exact Below.refl _ _)) hb4; replace HB := Aside0.mk (below_step HB.out hw4); replace HG := Aside0.mk (Kd.C_below HG.out hw4); replace hx0 := cell_move hx0 (fun hlt => hw4.block _ hlt); replace hx1 := cell_move hx1 (fun hlt => hw4.block _ hlt); clear hb4 hw4)
    | (go_at_call 28; have hq_ : w2 = w2 := rfl; clear hq_; (refine (PRf.galoisref23_Check.calls K2 n A0_1 c0_1 L 0 _ (Kd.C_below HG.out (by repeat (first | (with_reducible first | exact Below.refl _ _ | apply below_alloc | apply pw_below_drewN | apply below_drew1) | exact Below.refl _ _))) HC.out H2.out).mono ?_); rintro e w3 ⟨rfl, hb3⟩; have hw3 := below_step (w := w2) (by repeat (first | (with_reducible first | exact Below.refl _ _ | apply below_alloc | apply pw_below_drewN | apply below_drew1) | exact Below.refl _ _)) hb3; replace HB := Aside0.mk (below_step HB.out hw3); replace HG := Aside0.mk (Kd.C_below HG.out hw3); replace hx0 := cell_move hx0 (fun hlt => hw3.block _ hlt); replace hx1 := cell_move hx1 (fun hlt => hw3.block _ hlt); clear hb3 hw3)
    | (go_at_call 41; have hq_ : w1 = w1 := rfl; clear hq_; (refine (PRf.galoisref23_Few.calls K1 n A0_1 c0_1 L true _ (Kd.C_below HG.out (by repeat (first | (with_reducible first | exact Below.refl _ _ | apply below_alloc | apply pw_below_drewN | apply below_drew1) | exact Below.refl _ _))) HC.out H1.out).mono ?_); rintro e w2 ⟨rfl, hb2⟩; have hw2 := below_step (w := w1) (by repeat (first | (with_reducible first | exact Below.refl _ _ | apply below_alloc | apply pw_below_drewN | apply below_drew1) | exact Below.refl _ _)) hb2; replace HB := Aside0.mk (below_step HB.out hw2); replace HG := Aside0.mk (Kd.C_below HG.out hw2); replace hx0 := cell_move hx0 (fun hlt => hw2.block _ hlt); replace hx1 := cell_move hx1 (fun hlt => hw2.block _ hlt); clear hb2 hw2)
    | (go_at_call 26; (refine (galoislaw23_awake.calls true _ rfl).mono ?_); rintro e w1 ⟨rfl, hb1⟩; have hw1 := below_step (w := (w.alloc (.cells #[.int .i64 n, .slice A0_1 L.length c0_1] 37))) (by repeat (first | (with_reducible first | exact Below.refl _ _ | apply below_alloc | apply pw_below_drewN | apply below_drew1) | exact Below.refl _ _)) hb1; replace HB := Aside0.mk (below_step HB.out hw1); replace HG := Aside0.mk (Kd.C_below HG.out hw1); replace hx0 := cell_move hx0 (fun hlt => hw1.block _ hlt); replace hx1 := cell_move hx1 (fun hlt => hw1.block _ hlt); clear hb1 hw1))
  go_ret
  exact ⟨rfl, below_then (below_alloc (Below.refl _ _) _) (by simp) HB.out⟩
set_option maxHeartbeats 16000000 in
set_option maxRecDepth 100000 in
theorem counts_one (n : Nat) (i j : Int) (A0_1 : Option Addr) (c0_1 : Nat) (L : List (List Int)) (w : World) (hr0_1 : Kd.C (Kd.slice 3 (Kd.int .i64)) w A0_1 L.length L) (hc0_1 : L.length ≤ c0_1) (hn : n ≤ 12) (hL : L.length ≤ 6) (N X Y s : Int) (p q : List Int) (t1 t2 : Bool) (K1 K2 K3 K4 K5 K6 K7 : Nat)
    (h1 : PRf.galoisref23_Few.f K1 (n : Int) L = some true) (h2 : PRf.galoisref23_Check.f K2 (n : Int) L = some 0) (h3 : permgroup_Order.f K3 (n : Int) L = some (N, 0)) (hN : 1 ≤ N)
    (hX : i.tmod N = X) (hY : j.tmod N = Y) (hi : 0 ≤ i ∧ i < 4294967296) (hj : 0 ≤ j ∧ j < 4294967296) (h4 : permgroup_Element.f K4 (n : Int) L X = some (p, 0)) (h5 : permgroup_Element.f K5 (n : Int) L Y = some (q, 0)) (h6 : permgroup_Index.f K6 (n : Int) L p = some (X, 0))
    (hpq : p.length = q.length) (h7 : PRf.galoisref22_Compare.f K7 p q = some s) (hs1 : decide (s < 0) = t1) (hs2 : (s == 0) = t2) (hx1_ : decide (X < Y) = t1) (hx2_ : (X == Y) = t2) (K8 : Nat) (h8 : permgroup_Chain.f K8 (n : Int) L = some ([], 0)) (hN1 : N = 1) : Calls Try.prog 8 #[.agg #[.int .i64 (n : Int), .slice A0_1 L.length c0_1], .int .u32 i, .int .u32 j] w fun e w' => e = .returned (.bool true) ∧ Below w.heap.size w w' := by
  have H1 := Aside0.mk h1
  have H2 := Aside0.mk h2
  have H3 := Aside0.mk h3
  have H4 := Aside0.mk h4
  have H5 := Aside0.mk h5
  have H6 := Aside0.mk h6
  have H7 := Aside0.mk h7
  have d1 : decide (12 < (n : Int)) = false := decide_eq_false (by omega)
  have d2 : decide (12 < n) = false := decide_eq_false (by omega)
  have d3 : decide (6 < (L.length : Int)) = false := decide_eq_false (by omega)
  have d4 : decide (6 < L.length) = false := decide_eq_false (by omega)
  have d5 : decide (N < 1) = false := decide_eq_false (by omega)
  have d6 : (N == 0) = false := beq_eq_false_iff_ne.mpr (by omega)
  have d7 : (N = 0) = False := eq_false (by omega)
  have d8 : ((p.length : Int) != (q.length : Int)) = false := by rw [hpq]; simp
  have d9 : (p.length != q.length) = false := by rw [hpq]; simp
  have wi : IntKind.i64.wrap i = i := IntWalk.i64_in _ (by omega)
  have wj : IntKind.i64.wrap j = j := IntWalk.i64_in _ (by omega)
  clear h1 h2 h3 h4 h5 h6 h7 hn hL hpq
  have H8 := Aside0.mk h8
  have d10 : (N == 1) = true := by rw [hN1]; rfl
  clear h8 hN1 hN hi hj
  have hu := Try.underlying37
  have HB : Aside0 (Below (w.alloc (.cells #[.int .i64 (n : Int), .slice A0_1 L.length c0_1] 37)).heap.size (w.alloc (.cells #[.int .i64 (n : Int), .slice A0_1 L.length c0_1] 37)) (w.alloc (.cells #[.int .i64 (n : Int), .slice A0_1 L.length c0_1] 37))) := ⟨Below.refl _ _⟩
  have HC := Aside0.mk hc0_1
  have HG := Aside0.mk (Kd.C_below hr0_1 (below_alloc (Below.refl w.heap.size w) (.cells #[.int .i64 (n : Int), .slice A0_1 L.length c0_1] 37)))
  have hx0 : (w.alloc (.cells #[.int .i64 (n : Int), .slice A0_1 L.length c0_1] 37)).cell? ⟨w.heap.size, 0, none⟩ = some (.int .i64 (n : Int)) := by rw [World.cell?_alloc_at _ _ _ _ rfl]; rfl
  have hx1 : (w.alloc (.cells #[.int .i64 (n : Int), .slice A0_1 L.length c0_1] 37)).cell? ⟨w.heap.size, 1, none⟩ = some (.slice A0_1 L.length c0_1) := by rw [World.cell?_alloc_at _ _ _ _ rfl]; rfl
  clear hr0_1 hc0_1
  go_enter Try.func8, Try.ntmps8
  go_wp2_with (first
    | (go_at_call 29; have hq_ : w3 = w3 := rfl; clear hq_; (refine (permgroup_Order.calls K3 (n : Int) A0_1 c0_1 L N 0 _ (Kd.C_below HG.out (by repeat (first | (with_reducible first | exact Below.refl _ _ | apply below_alloc | apply pw_below_drewN | apply below_drew1) | exact Below.refl _ _))) HC.out H3.out).mono ?_); rintro e w4 ⟨rfl, hb4⟩; have hw4 := below_step (w := w3) (by repeat (first | (with_reducible first | exact Below.refl _ _ | apply below_alloc | apply pw_below_drewN | apply below_drew1) | exact Below.refl _ _)) hb4; replace HB := Aside0.mk (below_step HB.out hw4); replace HG := Aside0.mk (Kd.C_below HG.out hw4); replace hx0 := cell_move hx0 (fun hlt => hw4.block _ hlt); replace hx1 := cell_move hx1 (fun hlt => hw4.block _ hlt); clear hb4 hw4)
    | (go_at_call 28; have hq_ : w2 = w2 := rfl; clear hq_; (refine (PRf.galoisref23_Check.calls K2 (n : Int) A0_1 c0_1 L 0 _ (Kd.C_below HG.out (by repeat (first | (with_reducible first | exact Below.refl _ _ | apply below_alloc | apply pw_below_drewN | apply below_drew1) | exact Below.refl _ _))) HC.out H2.out).mono ?_); rintro e w3 ⟨rfl, hb3⟩; have hw3 := below_step (w := w2) (by repeat (first | (with_reducible first | exact Below.refl _ _ | apply below_alloc | apply pw_below_drewN | apply below_drew1) | exact Below.refl _ _)) hb3; replace HB := Aside0.mk (below_step HB.out hw3); replace HG := Aside0.mk (Kd.C_below HG.out hw3); replace hx0 := cell_move hx0 (fun hlt => hw3.block _ hlt); replace hx1 := cell_move hx1 (fun hlt => hw3.block _ hlt); clear hb3 hw3)
    | (go_at_call 41; have hq_ : w1 = w1 := rfl; clear hq_; (refine (PRf.galoisref23_Few.calls K1 (n : Int) A0_1 c0_1 L true _ (Kd.C_below HG.out (by repeat (first | (with_reducible first | exact Below.refl _ _ | apply below_alloc | apply pw_below_drewN | apply below_drew1) | exact Below.refl _ _))) HC.out H1.out).mono ?_); rintro e w2 ⟨rfl, hb2⟩; have hw2 := below_step (w := w1) (by repeat (first | (with_reducible first | exact Below.refl _ _ | apply below_alloc | apply pw_below_drewN | apply below_drew1) | exact Below.refl _ _)) hb2; replace HB := Aside0.mk (below_step HB.out hw2); replace HG := Aside0.mk (Kd.C_below HG.out hw2); replace hx0 := cell_move hx0 (fun hlt => hw2.block _ hlt); replace hx1 := cell_move hx1 (fun hlt => hw2.block _ hlt); clear hb2 hw2)
    | (go_at_call 26; (refine (galoislaw23_awake.calls true _ rfl).mono ?_); rintro e w1 ⟨rfl, hb1⟩; have hw1 := below_step (w := (w.alloc (.cells #[.int .i64 (n : Int), .slice A0_1 L.length c0_1] 37))) (by repeat (first | (with_reducible first | exact Below.refl _ _ | apply below_alloc | apply pw_below_drewN | apply below_drew1) | exact Below.refl _ _)) hb1; replace HB := Aside0.mk (below_step HB.out hw1); replace HG := Aside0.mk (Kd.C_below HG.out hw1); replace hx0 := cell_move hx0 (fun hlt => hw1.block _ hlt); replace hx1 := cell_move hx1 (fun hlt => hw1.block _ hlt); clear hb1 hw1))
  go_quiet (fail)
  go_wp2_with (first
    | (go_at_call 32; have hq_ : w8 = w8 := rfl; clear hq_; (refine (permgroup_Chain.calls K8 (n : Int) A0_1 c0_1 L [] 0 _ (Kd.C_below HG.out (by repeat (first | (with_reducible first | exact Below.refl _ _ | apply below_alloc | apply pw_below_drewN | apply below_drew1) | exact Below.refl _ _))) HC.out H8.out).mono ?_); rintro e w9 ⟨v9, rfl, hr9, hb9⟩; have hw9 := below_step (w := w8) (by repeat (first | (with_reducible first | exact Below.refl _ _ | apply below_alloc | apply pw_below_drewN | apply below_drew1) | exact Below.refl _ _)) hb9; replace HB := Aside0.mk (below_step HB.out hw9); replace HG := Aside0.mk (Kd.C_below HG.out hw9); replace hx0 := cell_move hx0 (fun hlt => hw9.block _ hlt); replace hx1 := cell_move hx1 (fun hlt => hw9.block _ hlt); replace HP := Aside0.mk (PermAt.below HP.out hw9); replace HQ := Aside0.mk (PermAt.below HQ.out hw9); obtain ⟨A9, c9, e9⟩ := Kd.R_slice hr9; subst e9; clear hr9; clear hb9 hw9)
    | (go_at_call 59; have hq_ : w7 = w7 := rfl; clear hq_; (refine (PRf.galoisref22_Compare.calls K7 A5 c5 p A6 c6 q s _ (PermAt.open (PermAt.below HP.out (by repeat (first | (with_reducible first | exact Below.refl _ _ | apply below_alloc | apply pw_below_drewN | apply below_drew1) | exact Below.refl _ _)))).2.2 (PermAt.open HP.out).2.1 (PermAt.open (PermAt.below HQ.out (by repeat (first | (with_reducible first | exact Below.refl _ _ | apply below_alloc | apply pw_below_drewN | apply below_drew1) | exact Below.refl _ _)))).2.2 (PermAt.open HQ.out).2.1 H7.out).mono ?_); rintro e w8 ⟨rfl, hb8⟩; have hb8 := hb8.below; have hw8 := below_step (w := w7) (by repeat (first | (with_reducible first | exact Below.refl _ _ | apply below_alloc | apply pw_below_drewN | apply below_drew1) | exact Below.refl _ _)) hb8; replace HB := Aside0.mk (below_step HB.out hw8); replace HG := Aside0.mk (Kd.C_below HG.out hw8); replace hx0 := cell_move hx0 (fun hlt => hw8.block _ hlt); replace hx1 := cell_move hx1 (fun hlt => hw8.block _ hlt); replace HP := Aside0.mk (PermAt.below HP.out hw8); replace HQ := Aside0.mk (PermAt.below HQ.out hw8); clear hb8 hw8)
    | (go_at_call 58; have hq_ : w6 = w6 := rfl; clear hq_; (refine (permgroup_Index.calls K6 (n : Int) A0_1 c0_1 L A5 c5 p X 0 _ (Kd.C_below HG.out (by repeat (first | (with_reducible first | exact Below.refl _ _ | apply below_alloc | apply pw_below_drewN | apply below_drew1) | exact Below.refl _ _))) HC.out (PermAt.open (PermAt.below HP.out (by repeat (first | (with_reducible first | exact Below.refl _ _ | apply below_alloc | apply pw_below_drewN | apply below_drew1) | exact Below.refl _ _)))).2.2 (PermAt.open HP.out).2.1 H6.out).mono ?_); rintro e w7 ⟨rfl, hb7⟩; have hw7 := below_step (w := w6) (by repeat (first | (with_reducible first | exact Below.refl _ _ | apply below_alloc | apply pw_below_drewN | apply below_drew1) | exact Below.refl _ _)) hb7; replace HB := Aside0.mk (below_step HB.out hw7); replace HG := Aside0.mk (Kd.C_below HG.out hw7); replace hx0 := cell_move hx0 (fun hlt => hw7.block _ hlt); replace hx1 := cell_move hx1 (fun hlt => hw7.block _ hlt); replace HP := Aside0.mk (PermAt.below HP.out hw7); replace HQ := Aside0.mk (PermAt.below HQ.out hw7); clear hb7 hw7)
    | (go_at_call 57; have hq_ : w5 = w5 := rfl; clear hq_; (refine (permgroup_Element.calls K5 (n : Int) A0_1 c0_1 L Y q 0 _ (Kd.C_below HG.out (by repeat (first | (with_reducible first | exact Below.refl _ _ | apply below_alloc | apply pw_below_drewN | apply below_drew1) | exact Below.refl _ _))) HC.out H5.out).mono ?_); rintro e w6 ⟨v6, rfl, hr6, hb6⟩; have hw6 := below_step (w := w5) (by repeat (first | (with_reducible first | exact Below.refl _ _ | apply below_alloc | apply pw_below_drewN | apply below_drew1) | exact Below.refl _ _)) hb6; replace HB := Aside0.mk (below_step HB.out hw6); replace HG := Aside0.mk (Kd.C_below HG.out hw6); replace hx0 := cell_move hx0 (fun hlt => hw6.block _ hlt); replace hx1 := cell_move hx1 (fun hlt => hw6.block _ hlt); replace HP := Aside0.mk (PermAt.below HP.out hw6); have HQ := Aside0.mk (PermAt.of_R hr6); obtain ⟨A6, c6, e6⟩ := Kd.R_slice hr6; subst e6; clear hr6; clear hb6 hw6)
    | (go_at_call 57; have hq_ : w4 = w4 := rfl; clear hq_; (refine (permgroup_Element.calls K4 (n : Int) A0_1 c0_1 L X p 0 _ (Kd.C_below HG.out (by repeat (first | (with_reducible first | exact Below.refl _ _ | apply below_alloc | apply pw_below_drewN | apply below_drew1) | exact Below.refl _ _))) HC.out H4.out).mono ?_); rintro e w5 ⟨v5, rfl, hr5, hb5⟩; have hw5 := below_step (w := w4) (by repeat (first | (with_reducible first | exact Below.refl _ _ | apply below_alloc | apply pw_below_drewN | apply below_drew1) | exact Below.refl _ _)) hb5; replace HB := Aside0.mk (below_step HB.out hw5); replace HG := Aside0.mk (Kd.C_below HG.out hw5); replace hx0 := cell_move hx0 (fun hlt => hw5.block _ hlt); replace hx1 := cell_move hx1 (fun hlt => hw5.block _ hlt); have HP := Aside0.mk (PermAt.of_R hr5); obtain ⟨A5, c5, e5⟩ := Kd.R_slice hr5; subst e5; clear hr5; clear hb5 hw5))
  go_ret
  exact ⟨rfl, below_then (below_alloc (Below.refl _ _) _) (by simp) HB.out⟩
set_option maxHeartbeats 16000000 in
set_option maxRecDepth 100000 in
theorem counts_big (n : Nat) (i j : Int) (A0_1 : Option Addr) (c0_1 : Nat) (L : List (List Int)) (w : World) (hr0_1 : Kd.C (Kd.slice 3 (Kd.int .i64)) w A0_1 L.length L) (hc0_1 : L.length ≤ c0_1) (hn : n ≤ 12) (hL : L.length ≤ 6) (N X Y s : Int) (p q : List Int) (t1 t2 : Bool) (K1 K2 K3 K4 K5 K6 K7 : Nat)
    (h1 : PRf.galoisref23_Few.f K1 (n : Int) L = some true) (h2 : PRf.galoisref23_Check.f K2 (n : Int) L = some 0) (h3 : permgroup_Order.f K3 (n : Int) L = some (N, 0)) (hN : 1 ≤ N)
    (hX : i.tmod N = X) (hY : j.tmod N = Y) (hi : 0 ≤ i ∧ i < 4294967296) (hj : 0 ≤ j ∧ j < 4294967296) (h4 : permgroup_Element.f K4 (n : Int) L X = some (p, 0)) (h5 : permgroup_Element.f K5 (n : Int) L Y = some (q, 0)) (h6 : permgroup_Index.f K6 (n : Int) L p = some (X, 0))
    (hpq : p.length = q.length) (h7 : PRf.galoisref22_Compare.f K7 p q = some s) (hs1 : decide (s < 0) = t1) (hs2 : (s == 0) = t2) (hx1_ : decide (X < Y) = t1) (hx2_ : (X == Y) = t2) (K8 : Nat) (l0 : S71) (rest : List S71) (h8 : permgroup_Chain.f K8 (n : Int) L = some (l0 :: rest, 0)) (o : Nat) (pt Q : Int) (hlo_ : l0.f1.length = o) (hpt_ : l0.f0 = pt) (ho : 2 ≤ o) (hQ : N.tdiv (o : Int) = Q) (hQr : 0 ≤ Q ∧ Q ≤ 9223372036854775807) (hb : 5040 < Q) : Calls Try.prog 8 #[.agg #[.int .i64 (n : Int), .slice A0_1 L.length c0_1], .int .u32 i, .int .u32 j] w fun e w' => e = .returned (.bool true) ∧ Below w.heap.size w w' := by
  have H1 := Aside0.mk h1
  have H2 := Aside0.mk h2
  have H3 := Aside0.mk h3
  have H4 := Aside0.mk h4
  have H5 := Aside0.mk h5
  have H6 := Aside0.mk h6
  have H7 := Aside0.mk h7
  have d1 : decide (12 < (n : Int)) = false := decide_eq_false (by omega)
  have d2 : decide (12 < n) = false := decide_eq_false (by omega)
  have d3 : decide (6 < (L.length : Int)) = false := decide_eq_false (by omega)
  have d4 : decide (6 < L.length) = false := decide_eq_false (by omega)
  have d5 : decide (N < 1) = false := decide_eq_false (by omega)
  have d6 : (N == 0) = false := beq_eq_false_iff_ne.mpr (by omega)
  have d7 : (N = 0) = False := eq_false (by omega)
  have d8 : ((p.length : Int) != (q.length : Int)) = false := by rw [hpq]; simp
  have d9 : (p.length != q.length) = false := by rw [hpq]; simp
  have wi : IntKind.i64.wrap i = i := IntWalk.i64_in _ (by omega)
  have wj : IntKind.i64.wrap j = j := IntWalk.i64_in _ (by omega)
  clear h1 h2 h3 h4 h5 h6 h7 hn hL hpq
  have H8 := Aside0.mk h8
  have wq : wrap64 Q = Q := IntWalk.wrap64_in _ ⟨by omega, by omega⟩
  have hlo := Aside0.mk hlo_
  have hpt := Aside0.mk hpt_
  obtain ⟨m, hm⟩ : ∃ m, (l0 :: rest).length = m := ⟨_, rfl⟩
  have hm0 : 0 < m := by rw [← hm]; exact Nat.succ_pos _
  have d10 : ((m : Int) == 0) = false := beq_eq_false_iff_ne.mpr (by omega)
  have d11 : (m == 0) = false := beq_eq_false_iff_ne.mpr (by omega)
  have d12 : (m = 0) = False := eq_false (by omega)
  have d13 : (0 < m) = True := eq_true hm0
  have d14 : (0 < (m : Int)) = True := eq_true (by omega)
  have d15 : decide ((o : Int) < 1) = false := decide_eq_false (by omega)
  have d16 : decide (o < 1) = false := decide_eq_false (by omega)
  have d17 : (o = 0) = False := eq_false (by omega)
  have d18 : ((o : Int) = 0) = False := eq_false (by omega)
  have d19 : ((o : Int) == 0) = false := beq_eq_false_iff_ne.mpr (by omega)
  have d20 : (0 < o) = True := eq_true (by omega)
  have d21 : (0 < (o : Int)) = True := eq_true (by omega)
  have d22 : decide (0 < (o : Int)) = true := decide_eq_true (by omega)
  have d23 : decide (0 < o) = true := decide_eq_true (by omega)
  have d30 : decide (5040 < Q) = true := decide_eq_true hb
  clear h8 hlo_ hpt_ ho hb hm0 hi hj hN hQr
  have hu := Try.underlying37
  have HB : Aside0 (Below (w.alloc (.cells #[.int .i64 (n : Int), .slice A0_1 L.length c0_1] 37)).heap.size (w.alloc (.cells #[.int .i64 (n : Int), .slice A0_1 L.length c0_1] 37)) (w.alloc (.cells #[.int .i64 (n : Int), .slice A0_1 L.length c0_1] 37))) := ⟨Below.refl _ _⟩
  have HC := Aside0.mk hc0_1
  have HG := Aside0.mk (Kd.C_below hr0_1 (below_alloc (Below.refl w.heap.size w) (.cells #[.int .i64 (n : Int), .slice A0_1 L.length c0_1] 37)))
  have hx0 : (w.alloc (.cells #[.int .i64 (n : Int), .slice A0_1 L.length c0_1] 37)).cell? ⟨w.heap.size, 0, none⟩ = some (.int .i64 (n : Int)) := by rw [World.cell?_alloc_at _ _ _ _ rfl]; rfl
  have hx1 : (w.alloc (.cells #[.int .i64 (n : Int), .slice A0_1 L.length c0_1] 37)).cell? ⟨w.heap.size, 1, none⟩ = some (.slice A0_1 L.length c0_1) := by rw [World.cell?_alloc_at _ _ _ _ rfl]; rfl
  clear hr0_1 hc0_1
  go_enter Try.func8, Try.ntmps8
  go_wp2_with (first
    | (go_at_call 29; have hq_ : w3 = w3 := rfl; clear hq_; (refine (permgroup_Order.calls K3 (n : Int) A0_1 c0_1 L N 0 _ (Kd.C_below HG.out (by repeat (first | (with_reducible first | exact Below.refl _ _ | apply below_alloc | apply pw_below_drewN | apply below_drew1) | exact Below.refl _ _))) HC.out H3.out).mono ?_); rintro e w4 ⟨rfl, hb4⟩; have hw4 := below_step (w := w3) (by repeat (first | (with_reducible first | exact Below.refl _ _ | apply below_alloc | apply pw_below_drewN | apply below_drew1) | exact Below.refl _ _)) hb4; replace HB := Aside0.mk (below_step HB.out hw4); replace HG := Aside0.mk (Kd.C_below HG.out hw4); replace hx0 := cell_move hx0 (fun hlt => hw4.block _ hlt); replace hx1 := cell_move hx1 (fun hlt => hw4.block _ hlt); clear hb4 hw4)
    | (go_at_call 28; have hq_ : w2 = w2 := rfl; clear hq_; (refine (PRf.galoisref23_Check.calls K2 (n : Int) A0_1 c0_1 L 0 _ (Kd.C_below HG.out (by repeat (first | (with_reducible first | exact Below.refl _ _ | apply below_alloc | apply pw_below_drewN | apply below_drew1) | exact Below.refl _ _))) HC.out H2.out).mono ?_); rintro e w3 ⟨rfl, hb3⟩; have hw3 := below_step (w := w2) (by repeat (first | (with_reducible first | exact Below.refl _ _ | apply below_alloc | apply pw_below_drewN | apply below_drew1) | exact Below.refl _ _)) hb3; replace HB := Aside0.mk (below_step HB.out hw3); replace HG := Aside0.mk (Kd.C_below HG.out hw3); replace hx0 := cell_move hx0 (fun hlt => hw3.block _ hlt); replace hx1 := cell_move hx1 (fun hlt => hw3.block _ hlt); clear hb3 hw3)
    | (go_at_call 41; have hq_ : w1 = w1 := rfl; clear hq_; (refine (PRf.galoisref23_Few.calls K1 (n : Int) A0_1 c0_1 L true _ (Kd.C_below HG.out (by repeat (first | (with_reducible first | exact Below.refl _ _ | apply below_alloc | apply pw_below_drewN | apply below_drew1) | exact Below.refl _ _))) HC.out H1.out).mono ?_); rintro e w2 ⟨rfl, hb2⟩; have hw2 := below_step (w := w1) (by repeat (first | (with_reducible first | exact Below.refl _ _ | apply below_alloc | apply pw_below_drewN | apply below_drew1) | exact Below.refl _ _)) hb2; replace HB := Aside0.mk (below_step HB.out hw2); replace HG := Aside0.mk (Kd.C_below HG.out hw2); replace hx0 := cell_move hx0 (fun hlt => hw2.block _ hlt); replace hx1 := cell_move hx1 (fun hlt => hw2.block _ hlt); clear hb2 hw2)
    | (go_at_call 26; (refine (galoislaw23_awake.calls true _ rfl).mono ?_); rintro e w1 ⟨rfl, hb1⟩; have hw1 := below_step (w := (w.alloc (.cells #[.int .i64 (n : Int), .slice A0_1 L.length c0_1] 37))) (by repeat (first | (with_reducible first | exact Below.refl _ _ | apply below_alloc | apply pw_below_drewN | apply below_drew1) | exact Below.refl _ _)) hb1; replace HB := Aside0.mk (below_step HB.out hw1); replace HG := Aside0.mk (Kd.C_below HG.out hw1); replace hx0 := cell_move hx0 (fun hlt => hw1.block _ hlt); replace hx1 := cell_move hx1 (fun hlt => hw1.block _ hlt); clear hb1 hw1))
  go_quiet (fail)
  go_wp2_with (first
    | (go_at_call 32; have hq_ : w8 = w8 := rfl; clear hq_; (refine (permgroup_Chain.calls K8 (n : Int) A0_1 c0_1 L (l0 :: rest) 0 _ (Kd.C_below HG.out (by repeat (first | (with_reducible first | exact Below.refl _ _ | apply below_alloc | apply pw_below_drewN | apply below_drew1) | exact Below.refl _ _))) HC.out H8.out).mono ?_); rintro e w9 ⟨v9, rfl, hr9, hb9⟩; have hw9 := below_step (w := w8) (by repeat (first | (with_reducible first | exact Below.refl _ _ | apply below_alloc | apply pw_below_drewN | apply below_drew1) | exact Below.refl _ _)) hb9; replace HB := Aside0.mk (below_step HB.out hw9); replace HG := Aside0.mk (Kd.C_below HG.out hw9); replace hx0 := cell_move hx0 (fun hlt => hw9.block _ hlt); replace hx1 := cell_move hx1 (fun hlt => hw9.block _ hlt); replace HP := Aside0.mk (PermAt.below HP.out hw9); replace HQ := Aside0.mk (PermAt.below HQ.out hw9); obtain ⟨g9, cap9, e9, _, _, _, _⟩ := Kd.R_form hr9 (Nat.succ_pos _); subst e9; obtain ⟨Ao, co, hy0, hy1⟩ := lev_head hr9; rw [hm];  rw [hlo.out] at hy1; rw [hpt.out] at hy0; clear hr9; have HB9 := HB; clear hb9 hw9)
    | (go_at_call 59; have hq_ : w7 = w7 := rfl; clear hq_; (refine (PRf.galoisref22_Compare.calls K7 A5 c5 p A6 c6 q s _ (PermAt.open (PermAt.below HP.out (by repeat (first | (with_reducible first | exact Below.refl _ _ | apply below_alloc | apply pw_below_drewN | apply below_drew1) | exact Below.refl _ _)))).2.2 (PermAt.open HP.out).2.1 (PermAt.open (PermAt.below HQ.out (by repeat (first | (with_reducible first | exact Below.refl _ _ | apply below_alloc | apply pw_below_drewN | apply below_drew1) | exact Below.refl _ _)))).2.2 (PermAt.open HQ.out).2.1 H7.out).mono ?_); rintro e w8 ⟨rfl, hb8⟩; have hb8 := hb8.below; have hw8 := below_step (w := w7) (by repeat (first | (with_reducible first | exact Below.refl _ _ | apply below_alloc | apply pw_below_drewN | apply below_drew1) | exact Below.refl _ _)) hb8; replace HB := Aside0.mk (below_step HB.out hw8); replace HG := Aside0.mk (Kd.C_below HG.out hw8); replace hx0 := cell_move hx0 (fun hlt => hw8.block _ hlt); replace hx1 := cell_move hx1 (fun hlt => hw8.block _ hlt); replace HP := Aside0.mk (PermAt.below HP.out hw8); replace HQ := Aside0.mk (PermAt.below HQ.out hw8); clear hb8 hw8)
    | (go_at_call 58; have hq_ : w6 = w6 := rfl; clear hq_; (refine (permgroup_Index.calls K6 (n : Int) A0_1 c0_1 L A5 c5 p X 0 _ (Kd.C_below HG.out (by repeat (first | (with_reducible first | exact Below.refl _ _ | apply below_alloc | apply pw_below_drewN | apply below_drew1) | exact Below.refl _ _))) HC.out (PermAt.open (PermAt.below HP.out (by repeat (first | (with_reducible first | exact Below.refl _ _ | apply below_alloc | apply pw_below_drewN | apply below_drew1) | exact Below.refl _ _)))).2.2 (PermAt.open HP.out).2.1 H6.out).mono ?_); rintro e w7 ⟨rfl, hb7⟩; have hw7 := below_step (w := w6) (by repeat (first | (with_reducible first | exact Below.refl _ _ | apply below_alloc | apply pw_below_drewN | apply below_drew1) | exact Below.refl _ _)) hb7; replace HB := Aside0.mk (below_step HB.out hw7); replace HG := Aside0.mk (Kd.C_below HG.out hw7); replace hx0 := cell_move hx0 (fun hlt => hw7.block _ hlt); replace hx1 := cell_move hx1 (fun hlt => hw7.block _ hlt); replace HP := Aside0.mk (PermAt.below HP.out hw7); replace HQ := Aside0.mk (PermAt.below HQ.out hw7); clear hb7 hw7)
    | (go_at_call 57; have hq_ : w5 = w5 := rfl; clear hq_; (refine (permgroup_Element.calls K5 (n : Int) A0_1 c0_1 L Y q 0 _ (Kd.C_below HG.out (by repeat (first | (with_reducible first | exact Below.refl _ _ | apply below_alloc | apply pw_below_drewN | apply below_drew1) | exact Below.refl _ _))) HC.out H5.out).mono ?_); rintro e w6 ⟨v6, rfl, hr6, hb6⟩; have hw6 := below_step (w := w5) (by repeat (first | (with_reducible first | exact Below.refl _ _ | apply below_alloc | apply pw_below_drewN | apply below_drew1) | exact Below.refl _ _)) hb6; replace HB := Aside0.mk (below_step HB.out hw6); replace HG := Aside0.mk (Kd.C_below HG.out hw6); replace hx0 := cell_move hx0 (fun hlt => hw6.block _ hlt); replace hx1 := cell_move hx1 (fun hlt => hw6.block _ hlt); replace HP := Aside0.mk (PermAt.below HP.out hw6); have HQ := Aside0.mk (PermAt.of_R hr6); obtain ⟨A6, c6, e6⟩ := Kd.R_slice hr6; subst e6; clear hr6; clear hb6 hw6)
    | (go_at_call 57; have hq_ : w4 = w4 := rfl; clear hq_; (refine (permgroup_Element.calls K4 (n : Int) A0_1 c0_1 L X p 0 _ (Kd.C_below HG.out (by repeat (first | (with_reducible first | exact Below.refl _ _ | apply below_alloc | apply pw_below_drewN | apply below_drew1) | exact Below.refl _ _))) HC.out H4.out).mono ?_); rintro e w5 ⟨v5, rfl, hr5, hb5⟩; have hw5 := below_step (w := w4) (by repeat (first | (with_reducible first | exact Below.refl _ _ | apply below_alloc | apply pw_below_drewN | apply below_drew1) | exact Below.refl _ _)) hb5; replace HB := Aside0.mk (below_step HB.out hw5); replace HG := Aside0.mk (Kd.C_below HG.out hw5); replace hx0 := cell_move hx0 (fun hlt => hw5.block _ hlt); replace hx1 := cell_move hx1 (fun hlt => hw5.block _ hlt); have HP := Aside0.mk (PermAt.of_R hr5); obtain ⟨A5, c5, e5⟩ := Kd.R_slice hr5; subst e5; clear hr5; clear hb5 hw5))
  go_ret
  exact ⟨rfl, below_then (below_alloc (Below.refl _ _) _) (by simp) HB.out⟩
set_option maxHeartbeats 16000000 in
set_option maxRecDepth 100000 in
theorem counts_all (n : Nat) (i j : Int) (A0_1 : Option Addr) (c0_1 : Nat) (L : List (List Int)) (w : World) (hr0_1 : Kd.C (Kd.slice 3 (Kd.int .i64)) w A0_1 L.length L) (hc0_1 : L.length ≤ c0_1) (hn : n ≤ 12) (hL : L.length ≤ 6) (N X Y s : Int) (p q : List Int) (t1 t2 : Bool) (K1 K2 K3 K4 K5 K6 K7 : Nat)
    (h1 : PRf.galoisref23_Few.f K1 (n : Int) L = some true) (h2 : PRf.galoisref23_Check.f K2 (n : Int) L = some 0) (h3 : permgroup_Order.f K3 (n : Int) L = some (N, 0)) (hN : 1 ≤ N)
    (hX : i.tmod N = X) (hY : j.tmod N = Y) (hi : 0 ≤ i ∧ i < 4294967296) (hj : 0 ≤ j ∧ j < 4294967296) (h4 : permgroup_Element.f K4 (n : Int) L X = some (p, 0)) (h5 : permgroup_Element.f K5 (n : Int) L Y = some (q, 0)) (h6 : permgroup_Index.f K6 (n : Int) L p = some (X, 0))
    (hpq : p.length = q.length) (h7 : PRf.galoisref22_Compare.f K7 p q = some s) (hs1 : decide (s < 0) = t1) (hs2 : (s == 0) = t2) (hx1_ : decide (X < Y) = t1) (hx2_ : (X == Y) = t2) (K8 : Nat) (l0 : S71) (rest : List S71) (h8 : permgroup_Chain.f K8 (n : Int) L = some (l0 :: rest, 0)) (o : Nat) (pt Q : Int) (hlo_ : l0.f1.length = o) (hpt_ : l0.f0 = pt) (ho : 2 ≤ o) (hQ : N.tdiv (o : Int) = Q) (hQr : 0 ≤ Q ∧ Q ≤ 9223372036854775807) (hb : Q ≤ 5040) (gs : List (List Int)) (K9 K10 : Nat) (h9 : permgroup_Stabilizer.f K9 (n : Int) L [pt] = some ((n : Int), gs, 0)) (h10 : permgroup_Order.f K10 (n : Int) gs = some (Q, 0)) (hQN : wrap64 (Q * (o : Int)) = N) : Calls Try.prog 8 #[.agg #[.int .i64 (n : Int), .slice A0_1 L.length c0_1], .int .u32 i, .int .u32 j] w fun e w' => e = .returned (.bool true) ∧ Below w.heap.size w w' := by
  have H1 := Aside0.mk h1
  have H2 := Aside0.mk h2
  have H3 := Aside0.mk h3
  have H4 := Aside0.mk h4
  have H5 := Aside0.mk h5
  have H6 := Aside0.mk h6
  have H7 := Aside0.mk h7
  have d1 : decide (12 < (n : Int)) = false := decide_eq_false (by omega)
  have d2 : decide (12 < n) = false := decide_eq_false (by omega)
  have d3 : decide (6 < (L.length : Int)) = false := decide_eq_false (by omega)
  have d4 : decide (6 < L.length) = false := decide_eq_false (by omega)
  have d5 : decide (N < 1) = false := decide_eq_false (by omega)
  have d6 : (N == 0) = false := beq_eq_false_iff_ne.mpr (by omega)
  have d7 : (N = 0) = False := eq_false (by omega)
  have d8 : ((p.length : Int) != (q.length : Int)) = false := by rw [hpq]; simp
  have d9 : (p.length != q.length) = false := by rw [hpq]; simp
  have wi : IntKind.i64.wrap i = i := IntWalk.i64_in _ (by omega)
  have wj : IntKind.i64.wrap j = j := IntWalk.i64_in _ (by omega)
  clear h1 h2 h3 h4 h5 h6 h7 hn hL hpq
  have H8 := Aside0.mk h8
  have wq : wrap64 Q = Q := IntWalk.wrap64_in _ ⟨by omega, by omega⟩
  have hlo := Aside0.mk hlo_
  have hpt := Aside0.mk hpt_
  obtain ⟨m, hm⟩ : ∃ m, (l0 :: rest).length = m := ⟨_, rfl⟩
  have hm0 : 0 < m := by rw [← hm]; exact Nat.succ_pos _
  have d10 : ((m : Int) == 0) = false := beq_eq_false_iff_ne.mpr (by omega)
  have d11 : (m == 0) = false := beq_eq_false_iff_ne.mpr (by omega)
  have d12 : (m = 0) = False := eq_false (by omega)
  have d13 : (0 < m) = True := eq_true hm0
  have d14 : (0 < (m : Int)) = True := eq_true (by omega)
  have d15 : decide ((o : Int) < 1) = false := decide_eq_false (by omega)
  have d16 : decide (o < 1) = false := decide_eq_false (by omega)
  have d17 : (o = 0) = False := eq_false (by omega)
  have d18 : ((o : Int) = 0) = False := eq_false (by omega)
  have d19 : ((o : Int) == 0) = false := beq_eq_false_iff_ne.mpr (by omega)
  have d20 : (0 < o) = True := eq_true (by omega)
  have d21 : (0 < (o : Int)) = True := eq_true (by omega)
  have d22 : decide (0 < (o : Int)) = true := decide_eq_true (by omega)
  have d23 : decide (0 < o) = true := decide_eq_true (by omega)
  have H9 := Aside0.mk h9
  have H10 := Aside0.mk h10
  have d30 : decide (5040 < Q) = false := decide_eq_false (by omega)
  clear h8 h9 h10 hlo_ hpt_ ho hb hm0 hi hj hN hQr
  have hu := Try.underlying37
  have HB : Aside0 (Below (w.alloc (.cells #[.int .i64 (n : Int), .slice A0_1 L.length c0_1] 37)).heap.size (w.alloc (.cells #[.int .i64 (n : Int), .slice A0_1 L.length c0_1] 37)) (w.alloc (.cells #[.int .i64 (n : Int), .slice A0_1 L.length c0_1] 37))) := ⟨Below.refl _ _⟩
  have HC := Aside0.mk hc0_1
  have HG := Aside0.mk (Kd.C_below hr0_1 (below_alloc (Below.refl w.heap.size w) (.cells #[.int .i64 (n : Int), .slice A0_1 L.length c0_1] 37)))
  have hx0 : (w.alloc (.cells #[.int .i64 (n : Int), .slice A0_1 L.length c0_1] 37)).cell? ⟨w.heap.size, 0, none⟩ = some (.int .i64 (n : Int)) := by rw [World.cell?_alloc_at _ _ _ _ rfl]; rfl
  have hx1 : (w.alloc (.cells #[.int .i64 (n : Int), .slice A0_1 L.length c0_1] 37)).cell? ⟨w.heap.size, 1, none⟩ = some (.slice A0_1 L.length c0_1) := by rw [World.cell?_alloc_at _ _ _ _ rfl]; rfl
  clear hr0_1 hc0_1
  go_enter Try.func8, Try.ntmps8
  go_wp2_with (first
    | (go_at_call 29; have hq_ : w3 = w3 := rfl; clear hq_; (refine (permgroup_Order.calls K3 (n : Int) A0_1 c0_1 L N 0 _ (Kd.C_below HG.out (by repeat (first | (with_reducible first | exact Below.refl _ _ | apply below_alloc | apply pw_below_drewN | apply below_drew1) | exact Below.refl _ _))) HC.out H3.out).mono ?_); rintro e w4 ⟨rfl, hb4⟩; have hw4 := below_step (w := w3) (by repeat (first | (with_reducible first | exact Below.refl _ _ | apply below_alloc | apply pw_below_drewN | apply below_drew1) | exact Below.refl _ _)) hb4; replace HB := Aside0.mk (below_step HB.out hw4); replace HG := Aside0.mk (Kd.C_below HG.out hw4); replace hx0 := cell_move hx0 (fun hlt => hw4.block _ hlt); replace hx1 := cell_move hx1 (fun hlt => hw4.block _ hlt); clear hb4 hw4)
    | (go_at_call 28; have hq_ : w2 = w2 := rfl; clear hq_; (refine (PRf.galoisref23_Check.calls K2 (n : Int) A0_1 c0_1 L 0 _ (Kd.C_below HG.out (by repeat (first | (with_reducible first | exact Below.refl _ _ | apply below_alloc | apply pw_below_drewN | apply below_drew1) | exact Below.refl _ _))) HC.out H2.out).mono ?_); rintro e w3 ⟨rfl, hb3⟩; have hw3 := below_step (w := w2) (by repeat (first | (with_reducible first | exact Below.refl _ _ | apply below_alloc | apply pw_below_drewN | apply below_drew1) | exact Below.refl _ _)) hb3; replace HB := Aside0.mk (below_step HB.out hw3); replace HG := Aside0.mk (Kd.C_below HG.out hw3); replace hx0 := cell_move hx0 (fun hlt => hw3.block _ hlt); replace hx1 := cell_move hx1 (fun hlt => hw3.block _ hlt); clear hb3 hw3)
    | (go_at_call 41; have hq_ : w1 = w1 := rfl; clear hq_; (refine (PRf.galoisref23_Few.calls K1 (n : Int) A0_1 c0_1 L true _ (Kd.C_below HG.out (by repeat (first | (with_reducible first | exact Below.refl _ _ | apply below_alloc | apply pw_below_drewN | apply below_drew1) | exact Below.refl _ _))) HC.out H1.out).mono ?_); rintro e w2 ⟨rfl, hb2⟩; have hw2 := below_step (w := w1) (by repeat (first | (with_reducible first | exact Below.refl _ _ | apply below_alloc | apply pw_below_drewN | apply below_drew1) | exact Below.refl _ _)) hb2; replace HB := Aside0.mk (below_step HB.out hw2); replace HG := Aside0.mk (Kd.C_below HG.out hw2); replace hx0 := cell_move hx0 (fun hlt => hw2.block _ hlt); replace hx1 := cell_move hx1 (fun hlt => hw2.block _ hlt); clear hb2 hw2)
    | (go_at_call 26; (refine (galoislaw23_awake.calls true _ rfl).mono ?_); rintro e w1 ⟨rfl, hb1⟩; have hw1 := below_step (w := (w.alloc (.cells #[.int .i64 (n : Int), .slice A0_1 L.length c0_1] 37))) (by repeat (first | (with_reducible first | exact Below.refl _ _ | apply below_alloc | apply pw_below_drewN | apply below_drew1) | exact Below.refl _ _)) hb1; replace HB := Aside0.mk (below_step HB.out hw1); replace HG := Aside0.mk (Kd.C_below HG.out hw1); replace hx0 := cell_move hx0 (fun hlt => hw1.block _ hlt); replace hx1 := cell_move hx1 (fun hlt => hw1.block _ hlt); clear hb1 hw1))
  go_quiet (fail)
  go_wp2_with (first
    | (go_at_call 32; have hq_ : w8 = w8 := rfl; clear hq_; (refine (permgroup_Chain.calls K8 (n : Int) A0_1 c0_1 L (l0 :: rest) 0 _ (Kd.C_below HG.out (by repeat (first | (with_reducible first | exact Below.refl _ _ | apply below_alloc | apply pw_below_drewN | apply below_drew1) | exact Below.refl _ _))) HC.out H8.out).mono ?_); rintro e w9 ⟨v9, rfl, hr9, hb9⟩; have hw9 := below_step (w := w8) (by repeat (first | (with_reducible first | exact Below.refl _ _ | apply below_alloc | apply pw_below_drewN | apply below_drew1) | exact Below.refl _ _)) hb9; replace HB := Aside0.mk (below_step HB.out hw9); replace HG := Aside0.mk (Kd.C_below HG.out hw9); replace hx0 := cell_move hx0 (fun hlt => hw9.block _ hlt); replace hx1 := cell_move hx1 (fun hlt => hw9.block _ hlt); replace HP := Aside0.mk (PermAt.below HP.out hw9); replace HQ := Aside0.mk (PermAt.below HQ.out hw9); obtain ⟨g9, cap9, e9, _, _, _, _⟩ := Kd.R_form hr9 (Nat.succ_pos _); subst e9; obtain ⟨Ao, co, hy0, hy1⟩ := lev_head hr9; rw [hm];  rw [hlo.out] at hy1; rw [hpt.out] at hy0; clear hr9; have HB9 := HB; clear hb9 hw9)
    | (go_at_call 59; have hq_ : w7 = w7 := rfl; clear hq_; (refine (PRf.galoisref22_Compare.calls K7 A5 c5 p A6 c6 q s _ (PermAt.open (PermAt.below HP.out (by repeat (first | (with_reducible first | exact Below.refl _ _ | apply below_alloc | apply pw_below_drewN | apply below_drew1) | exact Below.refl _ _)))).2.2 (PermAt.open HP.out).2.1 (PermAt.open (PermAt.below HQ.out (by repeat (first | (with_reducible first | exact Below.refl _ _ | apply below_alloc | apply pw_below_drewN | apply below_drew1) | exact Below.refl _ _)))).2.2 (PermAt.open HQ.out).2.1 H7.out).mono ?_); rintro e w8 ⟨rfl, hb8⟩; have hb8 := hb8.below; have hw8 := below_step (w := w7) (by repeat (first | (with_reducible first | exact Below.refl _ _ | apply below_alloc | apply pw_below_drewN | apply below_drew1) | exact Below.refl _ _)) hb8; replace HB := Aside0.mk (below_step HB.out hw8); replace HG := Aside0.mk (Kd.C_below HG.out hw8); replace hx0 := cell_move hx0 (fun hlt => hw8.block _ hlt); replace hx1 := cell_move hx1 (fun hlt => hw8.block _ hlt); replace HP := Aside0.mk (PermAt.below HP.out hw8); replace HQ := Aside0.mk (PermAt.below HQ.out hw8); clear hb8 hw8)
    | (go_at_call 58; have hq_ : w6 = w6 := rfl; clear hq_; (refine (permgroup_Index.calls K6 (n : Int) A0_1 c0_1 L A5 c5 p X 0 _ (Kd.C_below HG.out (by repeat (first | (with_reducible first | exact Below.refl _ _ | apply below_alloc | apply pw_below_drewN | apply below_drew1) | exact Below.refl _ _))) HC.out (PermAt.open (PermAt.below HP.out (by repeat (first | (with_reducible first | exact Below.refl _ _ | apply below_alloc | apply pw_below_drewN | apply below_drew1) | exact Below.refl _ _)))).2.2 (PermAt.open HP.out).2.1 H6.out).mono ?_); rintro e w7 ⟨rfl, hb7⟩; have hw7 := below_step (w := w6) (by repeat (first | (with_reducible first | exact Below.refl _ _ | apply below_alloc | apply pw_below_drewN | apply below_drew1) | exact Below.refl _ _)) hb7; replace HB := Aside0.mk (below_step HB.out hw7); replace HG := Aside0.mk (Kd.C_below HG.out hw7); replace hx0 := cell_move hx0 (fun hlt => hw7.block _ hlt); replace hx1 := cell_move hx1 (fun hlt => hw7.block _ hlt); replace HP := Aside0.mk (PermAt.below HP.out hw7); replace HQ := Aside0.mk (PermAt.below HQ.out hw7); clear hb7 hw7)
    | (go_at_call 57; have hq_ : w5 = w5 := rfl; clear hq_; (refine (permgroup_Element.calls K5 (n : Int) A0_1 c0_1 L Y q 0 _ (Kd.C_below HG.out (by repeat (first | (with_reducible first | exact Below.refl _ _ | apply below_alloc | apply pw_below_drewN | apply below_drew1) | exact Below.refl _ _))) HC.out H5.out).mono ?_); rintro e w6 ⟨v6, rfl, hr6, hb6⟩; have hw6 := below_step (w := w5) (by repeat (first | (with_reducible first | exact Below.refl _ _ | apply below_alloc | apply pw_below_drewN | apply below_drew1) | exact Below.refl _ _)) hb6; replace HB := Aside0.mk (below_step HB.out hw6); replace HG := Aside0.mk (Kd.C_below HG.out hw6); replace hx0 := cell_move hx0 (fun hlt => hw6.block _ hlt); replace hx1 := cell_move hx1 (fun hlt => hw6.block _ hlt); replace HP := Aside0.mk (PermAt.below HP.out hw6); have HQ := Aside0.mk (PermAt.of_R hr6); obtain ⟨A6, c6, e6⟩ := Kd.R_slice hr6; subst e6; clear hr6; clear hb6 hw6)
    | (go_at_call 57; have hq_ : w4 = w4 := rfl; clear hq_; (refine (permgroup_Element.calls K4 (n : Int) A0_1 c0_1 L X p 0 _ (Kd.C_below HG.out (by repeat (first | (with_reducible first | exact Below.refl _ _ | apply below_alloc | apply pw_below_drewN | apply below_drew1) | exact Below.refl _ _))) HC.out H4.out).mono ?_); rintro e w5 ⟨v5, rfl, hr5, hb5⟩; have hw5 := below_step (w := w4) (by repeat (first | (with_reducible first | exact Below.refl _ _ | apply below_alloc | apply pw_below_drewN | apply below_drew1) | exact Below.refl _ _)) hb5; replace HB := Aside0.mk (below_step HB.out hw5); replace HG := Aside0.mk (Kd.C_below HG.out hw5); replace hx0 := cell_move hx0 (fun hlt => hw5.block _ hlt); replace hx1 := cell_move hx1 (fun hlt => hw5.block _ hlt); have HP := Aside0.mk (PermAt.of_R hr5); obtain ⟨A5, c5, e5⟩ := Kd.R_slice hr5; subst e5; clear hr5; clear hb5 hw5))
  have HGL : Aside0 (g9 < w9.heap.size) := ⟨World.block_lt_of_cell? w9 _ hy1⟩
  have ga1 : g9 < w9.heap.size := World.block_lt_of_cell? w9 _ hy1
  have ga2 : g9 < w9.heap.size + 1 := Nat.lt_succ_of_lt ga1
  have ga3 : g9 ≠ w9.heap.size := Nat.ne_of_lt ga1
  have ga4 : g9 < w9.heap.size + 1 + 1 := Nat.lt_succ_of_lt ga2
  have ga5 : g9 ≠ w9.heap.size + 1 := Nat.ne_of_lt ga2
  have gb1 : w.heap.size < w9.heap.size := World.block_lt_of_cell? w9 _ hx1
  have gb2 : w.heap.size < w9.heap.size + 1 := Nat.lt_succ_of_lt gb1
  have gb3 : w.heap.size ≠ w9.heap.size := Nat.ne_of_lt gb1
  have gb4 : w.heap.size < w9.heap.size + 1 + 1 := Nat.lt_succ_of_lt gb2
  have gb5 : w.heap.size ≠ w9.heap.size + 1 := Nat.ne_of_lt gb2
  go_cut [18, 8] (fun v18 v8 wx => ∃ (sb : Nat) (A : Option Addr) (c : Nat), v18 = .pointer (some ⟨sb, 0, none⟩) ∧ v8 = .int .i64 0 ∧ Aside0 (wx.heap[sb]? = some (.cells #[.int .i64 (n : Int), .slice A gs.length c] 37 (0, 0))) ∧ Aside0 (Kd.C (Kd.slice 3 (Kd.int .i64)) wx A gs.length gs ∧ gs.length ≤ c) ∧ Aside0 (Below (w.alloc (.cells #[.int .i64 (n : Int), .slice A0_1 L.length c0_1] 37)).heap.size (w.alloc (.cells #[.int .i64 (n : Int), .slice A0_1 L.length c0_1] 37)) wx) ∧ wx.cell? ⟨g9, 1, none⟩ = some (.slice Ao o co))
  case first =>
    go_region_with (first
      | (go_at_call 60; have hq_ : w9 = w9 := rfl; clear hq_; (refine (permgroup_Stabilizer.calls K9 (n : Int) A0_1 c0_1 L _ 1 [pt] (n : Int) gs 0 _ (Kd.C_below HG.out (by repeat (first | (with_reducible first | exact Below.refl _ _ | apply below_alloc | apply pw_below_drewN | apply below_drew1) | exact Below.refl _ _))) HC.out (one_C (by simp only [heap_push, heap_drew, Array.getElem?_push, Array.size_push]; simp)) (Nat.le_refl _) H9.out).mono ?_); rintro e w10 ⟨v10, rfl, hs10, hb10⟩; have hw10 := below_step (w := w9) (by repeat (first | (with_reducible first | exact Below.refl _ _ | apply below_alloc | apply pw_below_drewN | apply below_drew1) | exact Below.refl _ _)) hb10; replace HB := Aside0.mk (below_step HB.out hw10); replace HG := Aside0.mk (Kd.C_below HG.out hw10); replace hx0 := cell_move hx0 (fun hlt => hw10.block _ hlt); replace hx1 := cell_move hx1 (fun hlt => hw10.block _ hlt); replace HP := Aside0.mk (PermAt.below HP.out hw10); replace HQ := Aside0.mk (PermAt.below HQ.out hw10); replace hy0 := cell_move hy0 (fun hlt => hw10.block _ hlt); replace hy1 := cell_move hy1 (fun hlt => hw10.block _ hlt); have HS := Aside0.mk hs10; obtain ⟨A10, c10, e10⟩ := Kd.R_slice (Kd.S_R hs10); subst e10; clear hs10; have hgl := Nat.lt_of_lt_of_le HGL.out hw10.size; have hsz9 := hw10.size; (try (refine use_fact (T := w10.heap[w9.heap.size]? = some (.cells #[.int .i64 0, .slice none 0 0] 37 (0, 0))) ?_ ?_; (focus (refine (hb10.block _ ?_).trans ?_; (focus (first | (simp; done) | (simp; omega))); (focus (simp only [heap_push, heap_drew, Array.getElem?_push, Array.size_push]; simp; done)))); intro hq_; have hca0 := blk_cell hq_ 0; have hca1 := blk_cell hq_ 1; have hfa0 := blk_frozen hq_ 0; have hfa1 := blk_frozen hq_ 1; have HKa := Aside0.mk hq_; clear hq_)); (try (refine use_fact (T := w10.heap[w9.heap.size + 1]? = some (.cells #[.int .i64 0, .slice none 0 0] 37 (0, 0))) ?_ ?_; (focus (refine (hb10.block _ ?_).trans ?_; (focus (first | (simp; done) | (simp; omega))); (focus (simp only [heap_push, heap_drew, Array.getElem?_push, Array.size_push]; simp; done)))); intro hq_; have hcb0 := blk_cell hq_ 0; have hcb1 := blk_cell hq_ 1; have hfb0 := blk_frozen hq_ 0; have hfb1 := blk_frozen hq_ 1; have HKb := Aside0.mk hq_; clear hq_)); clear hb10 hw10))
    all_goals
      go_wp2_with fail
      go_meet
      have hty : ∀ q, q ∈ 49 :: (Kd.slice 3 (Kd.int .i64)).E → q ≠ 37 := by decide
      first
      | (have p1 := blk_put HKa.out 0 (.int .i64 (n : Int)) rfl; have p2 := blk_put p1 1 (.slice A10 gs.length c10) rfl; have s2 := Kd.S_set (Kd.S_set HS.out HKa.out hty 0 (.int .i64 (n : Int))) p1 hty 1 (.slice A10 gs.length c10); exact ⟨_, A10, c10, rfl, rfl, ⟨p2⟩, ⟨(Kd.S_reads' s2).2.2, (Kd.S_reads' s2).2.1⟩, ⟨(HB.out.setCell (Nat.le_trans HB9.out.size (by simp)) _).setCell (Nat.le_trans HB9.out.size (by simp)) _⟩, (World.cell?_setCell_other _ _ _ _ (by first | (simp; done) | (simp; omega))).trans ((World.cell?_setCell_other _ _ _ _ (by first | (simp; done) | (simp; omega))).trans hy1)⟩)
      | (have p1 := blk_put HKb.out 0 (.int .i64 (n : Int)) rfl; have p2 := blk_put p1 1 (.slice A10 gs.length c10) rfl; have s2 := Kd.S_set (Kd.S_set HS.out HKb.out hty 0 (.int .i64 (n : Int))) p1 hty 1 (.slice A10 gs.length c10); exact ⟨_, A10, c10, rfl, rfl, ⟨p2⟩, ⟨(Kd.S_reads' s2).2.2, (Kd.S_reads' s2).2.1⟩, ⟨(HB.out.setCell (Nat.le_trans HB9.out.size (by simp)) _).setCell (Nat.le_trans HB9.out.size (by simp)) _⟩, (World.cell?_setCell_other _ _ _ _ (by first | (simp; done) | (simp; omega))).trans ((World.cell?_setCell_other _ _ _ _ (by first | (simp; done) | (simp; omega))).trans hy1)⟩)
      | exact ⟨_, A10, c10, rfl, rfl, ⟨blk_new _ _⟩, ⟨(Kd.S_reads' (Kd.S_alloc HS.out _)).2.2, (Kd.S_reads' HS.out).2.1⟩, ⟨below_then HB.out HB.out.size (below_alloc (Below.refl _ _) _)⟩, (World.cell?_alloc_lt _ _ _ (by first | exact hgl | (simp; omega))).trans hy1⟩
  case rest =>
    obtain ⟨sb, A, c, rfl, rfl, HZ, HGG, HB, hz1⟩ := hcut
    have HGS := Aside0.mk HGG.out.1
    have HGC := Aside0.mk HGG.out.2
    have hs0 : wc.cell? ⟨sb, 0, none⟩ = some (.int .i64 (n : Int)) := blk_cell HZ.out 0
    have hs1 : wc.cell? ⟨sb, 1, none⟩ = some (.slice A gs.length c) := blk_cell HZ.out 1
    go_wp2_with (first
      | (go_at_call 29; have hq_ : wc = wc := rfl; clear hq_; (refine (permgroup_Order.calls K10 (n : Int) A c gs Q 0 _ (Kd.C_below HGS.out (by repeat (first | (with_reducible first | exact Below.refl _ _ | apply below_alloc | apply pw_below_drewN | apply below_drew1) | exact Below.refl _ _))) HGC.out H10.out).mono ?_); rintro e w11 ⟨rfl, hb11⟩; have hw11 := below_step (w := wc) (by repeat (first | (with_reducible first | exact Below.refl _ _ | apply below_alloc | apply pw_below_drewN | apply below_drew1) | exact Below.refl _ _)) hb11; replace HB := Aside0.mk (below_step HB.out hw11); replace hz1 := cell_move hz1 (fun hlt => hw11.block _ hlt); clear hb11 hw11))
    go_ret
    exact ⟨rfl, below_then (below_alloc (Below.refl _ _) _) (by simp) HB.out⟩
end Go.Proofs.Ytmbldnoepjmhhaa.Bs
end
section
/- PermgroupCounts: the law, its walk by values joined with the laws of chains. -/
namespace Go.Proofs.Ytmbldnoepjmhhaa.Bs
open Go.RowKit Go.Proofs.YtmbldnoepjmhhaaW.PrintWords Go.Proofs.YtmbldnoepjmhhaaW.PrintLast Go.Proofs.YtmbldnoepjmhhaaW.PrintMore Go.Proofs.Ytmbldnoepjmhhaa.Plain Go.Proofs.Ytmbldnoepjmhhaa.PBs Go.Proofs.Ytmbldnoepjmhhaa.PAll Go.Proofs.Ytmbldnoepjmhhaa.Pms Go.Proofs.Ytmbldnoepjmhhaa.QStab Go.Proofs.Ytmbldnoepjmhhaa.QGr
theorem mod_at (i : Int) (m : Nat) (hi : 0 ≤ i) (hm : 0 < m) : i.tmod (m : Int) = ((i.toNat % m : Nat) : Int) := by
  obtain ⟨k, rfl⟩ : ∃ k : Nat, i = (k : Int) := ⟨i.toNat, by omega⟩
  rw [Int.toNat_natCast]
  exact Int.ofNat_tmod k m
theorem order_val {n : Nat} (hn : n ≤ 20) (S : List (Pm n)) (hS : S.length ≤ 32) {E : List (Pm n)} (hE : E.Pairwise Lt) (hG : ∀ p, p ∈ E ↔ Gen S p) : Ev (fun k => permgroup_Order.f k (n : Int) (S.map Pm.l)) ((E.length : Int), 0) := by
  obtain ⟨E', h1, h2, h3⟩ := permgroup_Order.ev hn S hS
  have : E' = E := sorted_eq h1 hE (fun p => by rw [h2, hG])
  rw [← this]; exact h3
theorem counts_law (a i j : Int) (A0_1 : Option Addr) (c0_1 : Nat) (L : List (List Int)) (w : World) (hr0_1 : Kd.C (Kd.slice 3 (Kd.int .i64)) w A0_1 L.length L) (hc0_1 : L.length ≤ c0_1) (hi : 0 ≤ i ∧ i < 4294967296) (hj : 0 ≤ j ∧ j < 4294967296) :
    Calls Try.prog 8 #[.agg #[.int .i64 a, .slice A0_1 L.length c0_1], .int .u32 i, .int .u32 j] w fun e w' => e = .returned (.bool true) ∧ Below w.heap.size w w' := by
  obtain ⟨b, K1, hb⟩ := QRf.galoisref23_Few.ev a L
  have h1 := hb K1 (Nat.le_refl _)
  obtain ⟨K2, hc⟩ := QRf.galoisref23_Check.ev a L
  have h2 := hc K2 (Nat.le_refl _)
  cases b with
  | false => exact counts_few a i j A0_1 c0_1 L w hr0_1 hc0_1 K1 h1
  | true =>
  by_cases h0 : chkG a L = 0
  · rw [h0] at h2
    by_cases hd : 12 < a
    · exact counts_deg a i j A0_1 c0_1 L w hr0_1 hc0_1 K1 h1 K2 h2 hd
    by_cases hl : 6 < L.length
    · exact counts_len a i j A0_1 c0_1 L w hr0_1 hc0_1 K1 h1 K2 h2 (by omega) hl
    obtain ⟨n, S, rfl, hn, rfl, hS⟩ := chkG_to h0
    rw [List.length_map] at hS
    obtain ⟨A, hA, K8, hch⟩ := permgroup_Chain.ev hn S hS
    obtain ⟨E, hE, hG, _, _⟩ := elements_spec hn hA
    obtain ⟨K3, ho⟩ := order_val hn S hS hE hG
    have hEl : E = El A n 0 1 := (el_all hA hE hG).symm
    have hEn : E.length = Bs.ordN A n 0 := by rw [hEl]; exact El.len hA.inv n 0 1 rfl (Nat.zero_le _)
    have hEp : 0 < E.length := List.length_pos_of_mem ((hG 1).2 (Gen.one _))
    have hEb : E.length ≤ 2432902008176640000 := by rw [hEn]; exact Nat.le_trans (ordN_le hA.inv n 0 rfl) (fact_small hn)
    have hx : i.toNat % E.length < E.length := Nat.mod_lt _ hEp
    have hy : j.toNat % E.length < E.length := Nat.mod_lt _ hEp
    obtain ⟨x, hxe⟩ : ∃ x, i.toNat % E.length = x := ⟨_, rfl⟩
    obtain ⟨y, hye⟩ : ∃ y, j.toNat % E.length = y := ⟨_, rfl⟩
    have hX := mod_at i E.length hi.1 hEp
    have hY := mod_at j E.length hj.1 hEp
    rw [hxe] at hx hX
    rw [hye] at hy hY
    obtain ⟨K4, hp⟩ := permgroup_Element.ev hn S hS hE hG (x : Int) (by omega)
    obtain ⟨K5, hq⟩ := permgroup_Element.ev hn S hS hE hG (y : Int) (by omega)
    have epx : elR E (x : Int) = (E[x].l, 0) := by unfold elR; rw [if_neg (by omega), Int.toNat_natCast, List.getElem?_eq_getElem hx]
    have epy : elR E (y : Int) = (E[y].l, 0) := by unfold elR; rw [if_neg (by omega), Int.toNat_natCast, List.getElem?_eq_getElem hy]
    rw [epx] at hp
    rw [epy] at hq
    obtain ⟨K6, hix⟩ := permgroup_Index.ev hn S hS hE hG E[x]
    rw [if_pos (List.getElem_mem hx), (sorted_nodup hE).idxOf_getElem x hx] at hix
    have hpq : E[x].l.length = E[y].l.length := by rw [E[x].len, E[y].len]
    obtain ⟨K7, hcm⟩ := QRf.galoisref22_Compare.ev E[x].l E[y].l hpq (by rw [E[x].len]; omega)
    have hlt : Lt E[x] E[y] ↔ x < y := by
      constructor
      · intro h
        rcases Nat.lt_trichotomy x y with h1 | h1 | h1
        · exact h1
        · subst h1; exact absurd h (Lt.irrefl _)
        · exact absurd h (Lt.asymm (List.pairwise_iff_getElem.1 hE y x hy hx h1))
      · intro h; exact List.pairwise_iff_getElem.1 hE x y hx hy h
    have heq : E[x] = E[y] ↔ x = y := by
      constructor
      · intro h
        rcases Nat.lt_trichotomy x y with h1 | h1 | h1
        · have := hlt.2 h1; rw [h] at this; exact absurd this (Lt.irrefl _)
        · exact h1
        · have := List.pairwise_iff_getElem.1 hE y x hy hx h1; rw [h] at this; exact absurd this (Lt.irrefl _)
      · intro h; subst h; rfl
    have hs1 : decide (cmpL E[x].l E[y].l < 0) = decide ((x : Int) < (y : Int)) := by
      rw [decide_eq_decide, cmp_lt, hlt]; omega
    have hs2 : (cmpL E[x].l E[y].l == 0) = ((x : Int) == (y : Int)) := by
      rw [Bool.eq_iff_iff, beq_iff_eq, beq_iff_eq, cmp_eq, heq]; omega
    have main := fun {R : Prop} (f : R) => f
    rcases first_level hA.inv n 0 rfl (Nat.zero_le _) (fun _ h => h) (fun _ h => h) with ⟨e1, e2⟩ | ⟨k, r, a1, a2, a3, a4, a5, a6⟩
    · rw [e1] at hch
      exact counts_one n i j A0_1 c0_1 _ w hr0_1 hc0_1 (by omega) (by omega) (E.length : Int) (x : Int) (y : Int) _ _ _ _ _ K1 K2 K3 K4 K5 K6 K7 h1 h2 (ho K3 (Nat.le_refl _)) (by omega) hX hY hi hj (hp K4 (Nat.le_refl _)) (hq K5 (Nat.le_refl _)) (hix K6 (Nat.le_refl _)) hpq (hcm K7 (Nat.le_refl _)) hs1 hs2 rfl rfl K8 (hch K8 (Nat.le_refl _)) (by rw [hEn, e2]; rfl)
    · rw [a3] at hch
      obtain ⟨F, f1, f2, f3⟩ := first_stab hA a2 a6
      have hsl : (sortO A k 1).length = (A.O k).length := (sortO_perm A k 1).length_eq
      have hlo : (lvAt A k).f1.length = (A.O k).length := by unfold lvAt ints; rw [List.length_map, hsl]
      have hQ : ((E.length : Nat) : Int).tdiv (((A.O k).length : Nat) : Int) = ((F.length : Nat) : Int) := by
        rw [f2, hEn, a5, Int.natCast_mul, Int.mul_tdiv_cancel_left]
        omega
      have hFb : F.length ≤ E.length := by
        rw [f2, hEn, a5]
        exact Nat.le_mul_of_pos_left _ (by omega)
      by_cases hbig : 5040 < F.length
      · exact counts_big n i j A0_1 c0_1 _ w hr0_1 hc0_1 (by omega) (by omega) (E.length : Int) (x : Int) (y : Int) _ _ _ _ _ K1 K2 K3 K4 K5 K6 K7 h1 h2 (ho K3 (Nat.le_refl _)) (by omega) hX hY hi hj (hp K4 (Nat.le_refl _)) (hq K5 (Nat.le_refl _)) (hix K6 (Nat.le_refl _)) hpq (hcm K7 (Nat.le_refl _)) hs1 hs2 rfl rfl K8 _ _ (hch K8 (Nat.le_refl _)) _ _ _ hlo rfl a4 hQ (by omega) (by omega)
      · obtain ⟨K9, hst⟩ := stab_val hn S hS (P := [((k : Nat) : Int)]) (by simp) (fun x hx => by rw [List.mem_singleton] at hx; omega) f1 f3 (by omega)
        have hgg := greedy_gen (T := F) (E := F) (fun p => ⟨fun h => Gen.of h, fun h => by
          refine Gen.induct (P := fun q => q ∈ F) ((f3 1).2 ⟨Gen.one _, fun x hx _ => Pm.one_ap hx⟩) (fun q s hq _ hs => ?_) h
          obtain ⟨q1, q2⟩ := (f3 q).1 hq
          obtain ⟨s1, s2⟩ := (f3 s).1 hs
          exact (f3 _).2 ⟨q1.mul s1, fun x hx hm => by rw [Pm.mul_ap _ _ hx, q2 x hx hm, s2 x hx hm]⟩⟩)
        have hgF : ∀ p, Gen F p ↔ p ∈ F := fun p => ⟨fun h => by
          refine Gen.induct (P := fun q => q ∈ F) ((f3 1).2 ⟨Gen.one _, fun x hx _ => Pm.one_ap hx⟩) (fun q s hq _ hs => ?_) h
          obtain ⟨q1, q2⟩ := (f3 q).1 hq
          obtain ⟨s1, s2⟩ := (f3 s).1 hs
          exact (f3 _).2 ⟨q1.mul s1, fun x hx hm => by rw [Pm.mul_ap _ _ hx, q2 x hx hm, s2 x hx hm]⟩, fun h => Gen.of h⟩
        have hgs := greedy_short hn (sorted_nodup f1) (fun p => (hgF p).symm) (by omega)
        obtain ⟨K10, ho2⟩ := order_val hn (greedy F []) (by omega) f1 (fun p => by rw [hgg p, hgF])
        refine counts_all n i j A0_1 c0_1 _ w hr0_1 hc0_1 (by omega) (by omega) (E.length : Int) (x : Int) (y : Int) _ _ _ _ _ K1 K2 K3 K4 K5 K6 K7 h1 h2 (ho K3 (Nat.le_refl _)) (by omega) hX hY hi hj (hp K4 (Nat.le_refl _)) (hq K5 (Nat.le_refl _)) (hix K6 (Nat.le_refl _)) hpq (hcm K7 (Nat.le_refl _)) hs1 hs2 rfl rfl K8 _ _ (hch K8 (Nat.le_refl _)) _ _ _ hlo rfl a4 hQ (by omega) (by omega) _ K9 K10 (hst K9 (Nat.le_refl _)) (ho2 K10 (Nat.le_refl _)) ?_
        have e : ((F.length : Nat) : Int) * (((A.O k).length : Nat) : Int) = ((E.length : Nat) : Int) := by
          rw [hEn, a5, f2, Int.natCast_mul, Int.mul_comm]
        rw [e]
        exact IntWalk.wrap64_in _ ⟨by omega, by omega⟩
  · exact counts_chk a i j A0_1 c0_1 L w hr0_1 hc0_1 K1 h1 _ h0 K2 h2
def galoislaw23_PermgroupCounts.f (k : Nat) (a0_0 : Int) (l0_1 : List (List Int)) (a1 a2 : Int) : Option Bool := if (0 ≤ a1 ∧ a1 < 4294967296) ∧ 0 ≤ a2 ∧ a2 < 4294967296 then some true else none
theorem galoislaw23_PermgroupCounts.mono : ∀ a0_0 l0_1 a1 a2 k, LeO (galoislaw23_PermgroupCounts.f k a0_0 l0_1 a1 a2) (galoislaw23_PermgroupCounts.f (k + 1) a0_0 l0_1 a1 a2) := fun _ _ _ _ _ => LeO.refl _
theorem galoislaw23_PermgroupCounts.calls (k : Nat) (a0_0 : Int) (A0_1 : Option Addr) (c0_1 : Nat) (l0_1 : List (List Int)) (a1 a2 : Int) (r : Bool) (w : World) (hr0_1 : Kd.C (Kd.slice 3 (Kd.int .i64)) w A0_1 l0_1.length l0_1) (hc0_1 : l0_1.length ≤ c0_1) (h : galoislaw23_PermgroupCounts.f k a0_0 l0_1 a1 a2 = some r) :
    Calls Try.prog 8 #[.agg #[.int .i64 a0_0, .slice A0_1 l0_1.length c0_1], .int .u32 a1, .int .u32 a2] w fun e w' => e = .returned (.bool r) ∧ Below w.heap.size w w' := by
  unfold galoislaw23_PermgroupCounts.f at h
  by_cases hh : (0 ≤ a1 ∧ a1 < 4294967296) ∧ 0 ≤ a2 ∧ a2 < 4294967296
  · rw [if_pos hh] at h
    obtain rfl := Option.some.inj h
    exact counts_law a0_0 a1 a2 A0_1 c0_1 l0_1 w hr0_1 hc0_1 hh.1 hh.2
  · rw [if_neg hh] at h; cases h
end Go.Proofs.Ytmbldnoepjmhhaa.Bs
end
