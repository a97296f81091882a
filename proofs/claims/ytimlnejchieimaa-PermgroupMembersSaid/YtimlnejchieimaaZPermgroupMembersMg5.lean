/- Texts of this claim put together (wip/tools/merge.py). -/
import Derived.Test.YtimlnejchieimaaZPermgroupMembersPPgx0
import Derived.Test.YtimlnejchieimaaZPermgroupMembersPPgx1
import Derived.Test.YtimlnejchieimaaZPermgroupMembersMg3
import Derived.Test.YtimlnejchieimaaZPermgroupMembersMg4
import Derived.Test.YtimlnejchieimaaZPermgroupMembersMg1
section
/- The walk of galoislaw23.awake: the chapter's example. -/
namespace Go.Proofs.Ytimlnejchieimaa.Bs
set_option linter.unusedVariables false
set_option linter.unusedSimpArgs false
open Go.RowKit Go.Proofs.YtimlnejchieimaaW.PrintWords Go.Proofs.YtimlnejchieimaaW.PrintLast Go.Proofs.YtimlnejchieimaaW.PrintMore Go.Proofs.Ytimlnejchieimaa.Plain Go.Proofs.Ytimlnejchieimaa.PBs Go.Proofs.Ytimlnejchieimaa.PAll
theorem lit_ints (W : World) (base : Nat) (xs : List Int) (hb : base ≤ W.heap.size) (hl : xs.length ≤ 1000) : Kd.R (Kd.int .i64) 3 (W.alloc (.cells (xs.map (Value.int .i64)).toArray 3)) base (fun b => b = W.heap.size) (.slice (some ⟨W.heap.size, 0, none⟩) xs.length xs.length) xs := by
  refine ⟨fun k hk => ?_, ?_⟩
  · have : W.heap.size = k := by simpa [Value.ownBlock] using hk
    exact this.symm
  · exact OwnRow.lit (ps := xs) (inner := xs.map (Value.int .i64)) W base ⟨by rw [List.length_map]; exact (Nat.mul_one _).symm, fun j p hj => by
      have hjl := (List.getElem?_eq_some_iff.1 hj).1
      show ((xs.map (Value.int .i64)).drop (j * 1)).take 1 = [Value.int .i64 p]
      rw [Nat.mul_one, List.drop_eq_getElem_cons (by simpa using hjl)]
      simp [(List.getElem?_eq_some_iff.1 hj).2]⟩ hb (by show xs.length ≤ 9223372036854775807; omega)
theorem lit_kvs (W : World) (base : Nat) (svs : List Sv) (hb : base ≤ W.heap.size) (hl : svs.length ≤ 1000) : Kd.R kv 47 (W.alloc (.cells (svs.map svE).toArray 47)) base (fun b => b = W.heap.size) (.slice (some ⟨W.heap.size, 0, none⟩) svs.length svs.length) svs := by
  refine ⟨fun k hk => ?_, ?_⟩
  · have : W.heap.size = k := by simpa [Value.ownBlock] using hk
    exact this.symm
  · exact OwnRow.lit (ps := svs) (inner := svs.map svE) W base ⟨by rw [List.length_map]; exact (Nat.mul_one _).symm, fun j p hj => by
      have hjl := (List.getElem?_eq_some_iff.1 hj).1
      show ((svs.map svE).drop (j * 1)).take 1 = [svE p]
      rw [Nat.mul_one, List.drop_eq_getElem_cons (by simpa using hjl)]
      simp [(List.getElem?_eq_some_iff.1 hj).2]⟩ hb (by show svs.length ≤ 9223372036854775807; omega)
set_option maxRecDepth 100000 in
theorem aw_order : permgroup_Order.f 60 4 [[1, 2, 3, 0], [2, 1, 0, 3]] = some (8, 0) := by decide +kernel
set_option maxRecDepth 100000 in
theorem aw_reduced : Go.Proofs.Ytimlnejchieimaa.PPg.permgroup_Reduced.f 60 4 [[1, 2, 3, 0], [2, 1, 0, 3]] = some (4, [[0, 3, 2, 1], [1, 0, 3, 2]], 0) := by decide +kernel
set_option maxRecDepth 100000 in
theorem aw_index : permgroup_Index.f 60 4 [[1, 2, 3, 0], [2, 1, 0, 3]] [1, 2, 3, 0] = some (3, 0) := by decide +kernel
def aw_l0 : S66 := ⟨0, [0, 1, 2, 3], [[0, 1, 2, 3], [1, 0, 3, 2], [2, 1, 0, 3], [3, 0, 1, 2]]⟩
def aw_l1 : S66 := ⟨1, [1, 3], [[0, 1, 2, 3], [0, 3, 2, 1]]⟩
set_option maxRecDepth 100000 in
theorem aw_chain : permgroup_Chain.f 60 4 [[1, 2, 3, 0], [2, 1, 0, 3]] = some ([aw_l0, aw_l1], 0) := by kernel_rfl
theorem aw_equal : Go.Proofs.Ytimlnejchieimaa.PRf.galoisref23_Equal.f 60 4 [[0, 3, 2, 1], [1, 0, 3, 2]] 4 [[0, 3, 2, 1], [1, 0, 3, 2]] = some true := by decide +kernel
theorem aw_same : Go.Proofs.Ytimlnejchieimaa.PRf.galoisref22_Same.f 60 [1, 3] [1, 3] = some true := by decide +kernel
theorem aw_cells {e base g n c : Nat} {ok : Nat → Prop} {w : World} (h : Kd.R k66 e w base ok (.slice (some ⟨g, 0, none⟩) n c) [aw_l0, aw_l1]) : w.cell? ⟨g, 3, none⟩ = some (.int .i64 1) ∧ ∃ A co, w.cell? ⟨g, 4, none⟩ = some (.slice A 2 co) ∧ 2 ≤ co ∧ Kd.C (Kd.int .i64) w A 2 [1, 3] := by
  obtain ⟨_, _, hC⟩ := Kd.R_reads' h
  obtain ⟨_, _, h3⟩ := hC
  obtain ⟨ad, ea, hc⟩ := h3 (by decide)
  obtain rfl := Option.some.inj ea
  obtain ⟨cs, hcl, hK, hcc⟩ := hc 1 aw_l1 rfl
  obtain ⟨A1, c1, A2, c2, rfl, hl1, hC1, _, _⟩ := k66_open hK
  exact ⟨hcc 0 _ rfl, A1, c1, hcc 1 _ rfl, hl1, hC1⟩
theorem lit_two (W : World) (xs ys : List Int) (hx : xs.length ≤ 1000) (hy : ys.length ≤ 1000) (b2 b3 : Nat) (h2 : b2 = W.heap.size + 1) (h3 : b3 = W.heap.size + 1 + 1) :
    Kd.C (Kd.slice 3 (Kd.int .i64)) (((W.alloc (.cells (xs.map (Value.int .i64)).toArray 3)).alloc (.cells (ys.map (Value.int .i64)).toArray 3)).alloc (.cells #[.slice (some ⟨W.heap.size, 0, none⟩) xs.length xs.length, .slice (some ⟨b2, 0, none⟩) ys.length ys.length] 47)) (some ⟨b3, 0, none⟩) 2 [xs, ys] := by
  have s1 : (W.alloc (.cells (xs.map (Value.int .i64)).toArray 3)).heap.size = b2 := by rw [h2]; simp
  have s2 : ((W.alloc (.cells (xs.map (Value.int .i64)).toArray 3)).alloc (.cells (ys.map (Value.int .i64)).toArray 3)).heap.size = b3 := by rw [h3]; simp
  have r1 := lit_ints W 0 xs (Nat.zero_le _) hx
  have r2 := lit_ints (W.alloc (.cells (xs.map (Value.int .i64)).toArray 3)) 0 ys (Nat.zero_le _) hy
  rw [s1] at r2
  have r3 := lit_kvs ((W.alloc (.cells (xs.map (Value.int .i64)).toArray 3)).alloc (.cells (ys.map (Value.int .i64)).toArray 3)) 0 [(some ⟨W.heap.size, 0, none⟩, xs.length, xs.length), (some ⟨b2, 0, none⟩, ys.length, ys.length)] (Nat.zero_le _) (by simp)
  rw [s2] at r3
  refine C_of_kv r3 rfl (fun i sv p e1 e2 => ?_)
  match i, e1, e2 with
  | 0, e1, e2 =>
    obtain rfl := Option.some.inj e1
    obtain rfl := Option.some.inj e2
    exact PermAt.of_R (Kd.R_below (Kd.R_below r1 (below_alloc (Below.refl _ _) _)) (below_alloc (Below.refl _ _) _))
  | 1, e1, e2 =>
    obtain rfl := Option.some.inj e1
    obtain rfl := Option.some.inj e2
    exact PermAt.of_R (Kd.R_below r2 (below_alloc (Below.refl _ _) _))
def galoislaw23_awake.f : Option Bool := some true
set_option maxHeartbeats 16000000 in
set_option maxRecDepth 100000 in
theorem galoislaw23_awake.calls (r : Bool) (w : World) (h : galoislaw23_awake.f = some r) : Calls Try.prog 9 #[] w fun e w' => e = .returned (.bool r) ∧ Below w.heap.size w w' := by
  obtain rfl : true = r := Option.some.inj h
  clear h
  have hu := Try.underlying24
  go_enter Try.func9, Try.ntmps9
  have HB := Aside0.mk (Below.refl w.heap.size w)
  go_wp2_with (first
    | (go_at_call 53; (refine (Go.Proofs.Ytimlnejchieimaa.PPg.galoislaw23_example.calls 4 [[1, 2, 3, 0], [2, 1, 0, 3]] _ rfl).mono ?_); rintro e1 w1 ⟨v1, rfl, hr1, hb⟩; obtain ⟨A1, c1, e1, hl1, hC1⟩ := Kd.N_reads hr1; subst e1; have HC1 := Aside0.mk hC1; have HL1 := Aside0.mk hl1; have HB := Aside0.mk (below_step (w := w) (by first | exact HB.out | exact below_alloc HB.out _) hb); try (have HR := Aside0.mk (below_step (w := wR.alloc (.cells #[.int .i64 4, .slice A3 2 c3] 24)) (by first | exact HR.out | exact below_alloc HR.out _ | exact Below.refl _ _) hb)); clear hr1 hb hl1 hC1)
    | (go_at_call 12; (refine (permgroup_Order.calls 60 4 A1 c1 [[1, 2, 3, 0], [2, 1, 0, 3]] 8 0 _ HC1.out HL1.out aw_order).mono ?_); rintro e2 w2 ⟨rfl, hb⟩; have HB := Aside0.mk (below_step (w := w) HB.out hb); clear hb)
    | (go_at_call 14; (refine (Go.Proofs.Ytimlnejchieimaa.PPg.permgroup_Reduced.calls 60 4 A1 c1 [[1, 2, 3, 0], [2, 1, 0, 3]] 4 [[0, 3, 2, 1], [1, 0, 3, 2]] 0 _ HC1.out HL1.out aw_reduced).mono ?_); rintro e3 wR ⟨v3, rfl, hr3, hb⟩; obtain ⟨A3, c3, e3, hl3, hC3⟩ := Kd.R_reads (Kd.S_R hr3); subst e3; have HC3 := Aside0.mk hC3; have HL3 := Aside0.mk hl3; have HB := Aside0.mk (below_step (w := w) HB.out hb); have HR := Aside0.mk True.intro; clear hr3 hb hl3 hC3)
    | (go_at_call 25; (refine (permgroup_Index.calls 60 4 A1 c1 [[1, 2, 3, 0], [2, 1, 0, 3]] (some ⟨w1.heap.size, 0, none⟩) 4 [1, 2, 3, 0] 3 0 _ (Kd.C_below HC1.out (below_alloc (Below.refl _ _) _)) HL1.out (Kd.R_reads' (lit_ints w1 0 [1, 2, 3, 0] (Nat.zero_le _) (by decide))).2.2 (by decide) aw_index).mono ?_); rintro e4 w4 ⟨rfl, hb⟩; have HB := Aside0.mk (below_step (w := w) (below_alloc HB.out _) hb); have HR := Aside0.mk (below_step (w := wR.alloc (.cells #[.int .i64 4, .slice A3 2 c3] 24)) (below_alloc HR.out _) hb); clear hb)
    | (go_at_call 15; (refine (permgroup_Chain.calls 60 4 A1 c1 [[1, 2, 3, 0], [2, 1, 0, 3]] [aw_l0, aw_l1] 0 _ HC1.out HL1.out aw_chain).mono ?_); rintro e5 wC ⟨v5, rfl, hr5, hb⟩; obtain ⟨gc, cc, e5, _, _, _, _⟩ := Kd.R_form hr5 (by decide); subst e5; obtain ⟨hk3, Ao, co, hk4, hlo, hCo⟩ := aw_cells hr5; have HK4 := Aside0.mk hk4; have HLo := Aside0.mk hlo; have HCo := Aside0.mk hCo; clear hk4 hlo hCo; have HB := Aside0.mk (below_step (w := w) HB.out hb); have HR := Aside0.mk (below_step (w := wR.alloc (.cells #[.int .i64 4, .slice A3 2 c3] 24)) HR.out hb); have hg0 := cell_move (w' := wC) (show (wR.alloc (.cells #[.int .i64 4, .slice A3 2 c3] 24)).cell? ⟨wR.heap.size, 0, none⟩ = some (.int .i64 4) from by rw [World.cell?_alloc_at _ _ _ _ rfl]; rfl) (fun hlt => HR.out.block _ hlt); have hg1 := cell_move (w' := wC) (show (wR.alloc (.cells #[.int .i64 4, .slice A3 2 c3] 24)).cell? ⟨wR.heap.size, 1, none⟩ = some (.slice A3 2 c3) from by rw [World.cell?_alloc_at _ _ _ _ rfl]; rfl) (fun hlt => HR.out.block _ hlt); clear hr5 hb)
    | (go_at_call 20; (refine (Go.Proofs.Ytimlnejchieimaa.PRf.galoisref23_Equal.calls 60 4 A3 c3 [[0, 3, 2, 1], [1, 0, 3, 2]] 4 (some ⟨wC.heap.size + 1 + 1, 0, none⟩) 2 [[0, 3, 2, 1], [1, 0, 3, 2]] true _ (Kd.C_below HC3.out (below_step (w := wR) (below_alloc (Below.refl _ _) _) (by repeat (first | exact HR.out | apply below_alloc)))) HL3.out (lit_two wC [0, 3, 2, 1] [1, 0, 3, 2] (by decide) (by decide) _ _ rfl rfl) (by decide) aw_equal).mono ?_); rintro e6 w6 ⟨rfl, hb⟩; have HB := Aside0.mk (below_step (w := w) (by repeat (first | exact HB.out | apply below_alloc)) hb); have HB6 := Aside0.mk (below_step (w := wC) (by repeat (first | exact Below.refl _ _ | apply below_alloc)) hb); have hk6 := cell_move (w' := w6) HK4.out (fun hlt => HB6.out.block _ hlt); clear hb)
    | (go_at_call 27; (refine (Go.Proofs.Ytimlnejchieimaa.PRf.galoisref22_Same.calls 60 Ao co [1, 3] (some ⟨w6.heap.size, 0, none⟩) 2 [1, 3] true _ (Kd.C_below HCo.out (below_alloc HB6.out _)) HLo.out (Kd.R_reads' (lit_ints w6 0 [1, 3] (Nat.zero_le _) (by decide))).2.2 (by decide) aw_same).mono ?_); rintro e7 w7 ⟨rfl, hd⟩; have hq := hd.out; obtain ⟨q, rfl⟩ := hq; have HB := Aside0.mk (pw_below_drewN (below_alloc HB.out (.cells #[.int .i64 1, .int .i64 3] 3)) q); clear hd))
  go_ret
  exact ⟨rfl, HB.out⟩
end Go.Proofs.Ytimlnejchieimaa.Bs
end
section
/- What the law package's own functions come to: a group that is too large for the reference, or all its elements. -/
namespace Go.Proofs.Ytimlnejchieimaa.QPg
set_option linter.unusedVariables false
set_option linter.unusedSimpArgs false
open Go.RowKit Go.Proofs.YtimlnejchieimaaW.PrintWords Go.Proofs.Ytimlnejchieimaa.Plain Go.Proofs.Ytimlnejchieimaa.Pms Go.Proofs.Ytimlnejchieimaa.QRf Go.Proofs.Ytimlnejchieimaa.QCl Go.Proofs.Ytimlnejchieimaa.Bs
variable {n : Nat}
theorem elementsP (hn : n ≤ 20) {S E : List (Pm n)} (hE : E.Pairwise Lt) (hG : ∀ p, p ∈ E ↔ Gen S p) : Ev (fun k => PPg.galoisref23_Elements.f k (n : Int) (S.map Pm.l)) (closeR E) := by
  refine Ev.congr (f := fun k => (Bs.galoisref23_Close.f k (n : Int) (S.map Pm.l)).bind fun t => some (t.1, t.2)) (fun k => rfl) ?_
  exact Ev.bind (closeP hn hE hG) (Ev.now _)
structure Fit (a : Int) (L : List (List Int)) (n : Nat) (S E : List (Pm n)) : Prop where
  deg : a = (n : Int)
  hn : n ≤ 20
  gens : S.map Pm.l = L
  len : S.length ≤ 32
  srt : E.Pairwise Lt
  all : ∀ p, p ∈ E ↔ Gen S p
  few : E.length ≤ 240
theorem large_ev (a : Int) (L : List (List Int)) : ∃ b, Ev (fun k => PPg.galoislaw23_large.f k a L) b ∧ (b = false → chkG a L = 0 → ∃ (n : Nat) (S E : List (Pm n)), Fit a L n S E) := by
  obtain ⟨fb, hf⟩ := galoisref23_Few.ev a L
  have hc := galoisref23_Check.ev a L
  cases fb with
  | false =>
    refine ⟨true, ?_, fun h => by cases h⟩
    refine Ev.congr (f := fun k => (PRf.galoisref23_Few.f k a L).bind fun t => if t = true then ((PRf.galoisref23_Check.f k a L).bind fun t2 => if t2 = 0 then ((PPg.galoisref23_Small.f k a L).bind fun t3 => some (!t3)) else some false) else some true) (fun k => rfl) ?_
    refine Ev.bind hf ?_
    simp only [Bool.false_eq_true, if_false]
    exact Ev.now _
  | true =>
    by_cases h0 : chkG a L = 0
    · obtain ⟨n, S, rfl, hn, rfl, hL⟩ := chkG_to h0
      rw [List.length_map] at hL
      obtain ⟨E, hE, hG⟩ := all_exists hn S
      have hs : Ev (fun k => PPg.galoisref23_Small.f k (n : Int) (S.map Pm.l)) (decide (E.length ≤ 240)) := by
        refine Ev.congr (f := fun k => (PRf.galoisref23_Few.f k (n : Int) (S.map Pm.l)).bind fun t => if t = true then ((PRf.galoisref23_Check.f k (n : Int) (S.map Pm.l)).bind fun t2 => if t2 = 0 then ((PPg.galoisref23_Elements.f k (n : Int) (S.map Pm.l)).bind fun t3 => some t3.2) else some false) else some false) (fun k => rfl) ?_
        refine Ev.bind hf ?_
        simp only [if_true]
        refine Ev.bind hc ?_
        simp only [if_pos h0]
        refine Ev.bind (elementsP hn hE hG) ?_
        have e : (closeR E).2 = decide (E.length ≤ 240) := by
          unfold closeR
          by_cases h : E.length ≤ 240
          · rw [if_pos h, decide_eq_true h]
          · rw [if_neg h, decide_eq_false h]
        rw [e]; exact Ev.now _
      refine ⟨!decide (E.length ≤ 240), ?_, fun h _ => ⟨n, S, E, rfl, hn, rfl, hL, hE, hG, by simpa using h⟩⟩
      refine Ev.congr (f := fun k => (PRf.galoisref23_Few.f k (n : Int) (S.map Pm.l)).bind fun t => if t = true then ((PRf.galoisref23_Check.f k (n : Int) (S.map Pm.l)).bind fun t2 => if t2 = 0 then ((PPg.galoisref23_Small.f k (n : Int) (S.map Pm.l)).bind fun t3 => some (!t3)) else some false) else some true) (fun k => rfl) ?_
      refine Ev.bind hf ?_
      simp only [if_true]
      refine Ev.bind hc ?_
      simp only [if_pos h0]
      exact Ev.bind hs (Ev.now _)
    · refine ⟨false, ?_, fun _ h => absurd h h0⟩
      refine Ev.congr (f := fun k => (PRf.galoisref23_Few.f k a L).bind fun t => if t = true then ((PRf.galoisref23_Check.f k a L).bind fun t2 => if t2 = 0 then ((PPg.galoisref23_Small.f k a L).bind fun t3 => some (!t3)) else some false) else some true) (fun k => rfl) ?_
      refine Ev.bind hf ?_
      simp only [if_true]
      refine Ev.bind hc ?_
      simp only [if_neg h0]
      exact Ev.now _
end Go.Proofs.Ytimlnejchieimaa.QPg
end
