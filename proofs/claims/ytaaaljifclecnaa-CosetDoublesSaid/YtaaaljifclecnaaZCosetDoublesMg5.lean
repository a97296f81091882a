/- Texts of this claim put together (wip/tools/merge.py). -/
import Derived.Test.YtaaaljifclecnaaZCosetDoublesPThx0
import Derived.Test.YtaaaljifclecnaaZCosetDoublesPThx1
import Derived.Test.YtaaaljifclecnaaZCosetDoublesMg1
import Derived.Test.YtaaaljifclecnaaZCosetDoublesMg4
import Derived.Test.YtaaaljifclecnaaZCosetDoublesMg0
set_option linter.unusedVariables false
set_option linter.unusedSimpArgs false
section
/- The walk of galoislaw27.awake: the chapter's example. -/
namespace Go.Proofs.Ytaaaljifclecnaa.Bs
open Go.RowKit Go.Proofs.YtaaaljifclecnaaW.PrintWords Go.Proofs.YtaaaljifclecnaaW.PrintLast Go.Proofs.YtaaaljifclecnaaW.PrintMore Go.Proofs.Ytaaaljifclecnaa.Plain Go.Proofs.Ytaaaljifclecnaa.PBs
theorem aw_same1 : Go.Proofs.Ytaaaljifclecnaa.PRf.galoisref22_SamePerms.f 60 [[0, 1, 2], [1, 0, 2], [2, 0, 1]] [[0, 1, 2], [1, 0, 2], [2, 0, 1]] = some true := by decide +kernel
theorem aw_same2 : Go.Proofs.Ytaaaljifclecnaa.PRf.galoisref22_SamePerms.f 60 [[1, 0, 2], [1, 2, 0]] [[1, 0, 2], [1, 2, 0]] = some true := by decide +kernel
theorem aw_same3 : Go.Proofs.Ytaaaljifclecnaa.PRf.galoisref22_SameLists.f 60 [[0, 1], [1, 0]] [[0, 1], [1, 0]] = some true := by decide +kernel
theorem run_gens (w : World) (a b : Value) : (Instr.field 24 (.agg #[a, b]) 1).run Try.prog w = .ok b w := by kernel_rfl
def galoislaw27_awake.f : Option Bool := some true
set_option maxHeartbeats 16000000 in
set_option maxRecDepth 100000 in
theorem galoislaw27_awake.calls (r : Bool) (w : World) (h : galoislaw27_awake.f = some r) : Calls Try.prog 10 #[] w fun e w' => e = .returned (.bool r) ∧ Below w.heap.size w w' := by
  obtain rfl : true = r := Option.some.inj h
  clear h
  have hu := Try.underlying24
  have hfg := run_gens
  go_enter Try.func10, Try.ntmps10
  have HB := Aside0.mk (Below.refl w.heap.size w)
  go_wp2_with (first
    | (go_at_call 44; (refine (Go.Proofs.Ytaaaljifclecnaa.PTh.galoislaw27_three.calls 3 [[1, 0, 2], [1, 2, 0]] _ rfl).mono ?_); rintro e1 w1 ⟨v1, rfl, hr1, hb⟩; obtain ⟨A1, c1, e1, hl1, hC1⟩ := Kd.N_reads hr1; subst e1; have HC1 := Aside0.mk hC1; have HL1 := Aside0.mk hl1; have HB := Aside0.mk (below_step (w := w) (by repeat (first | exact HB.out | apply below_alloc | apply pw_below_drewN)) hb); (try (have hz := HRR.out; have HRR := Aside0.mk (below_step (w := wR) (by repeat (first | exact hz | apply below_alloc | apply pw_below_drewN)) hb); clear hz)); (try (have hz := HRA.out; have HRA := Aside0.mk (below_step (w := wA) (by repeat (first | exact hz | apply below_alloc | apply pw_below_drewN)) hb); clear hz)); (try (have hz := HRQ.out; have HRQ := Aside0.mk (below_step (w := wQ) (by repeat (first | exact hz | apply below_alloc | apply pw_below_drewN)) hb); clear hz)); clear hr1 hb hl1 hC1)
    | (go_at_call 45; have hq := HRA.out; (refine (Go.Proofs.Ytaaaljifclecnaa.PTh.galoislaw27_by.calls (fun _ => True) (some ⟨w1.heap.size, 0, none⟩) 3 [1, 2, 0] 3 [[1, 2, 0]] _ (Kd.V_mono (Kd.R_V (lit_ints w1 0 [1, 2, 0] (Nat.zero_le _) (by decide))) (fun _ _ => trivial)) rfl).mono ?_); rintro e2 w2 ⟨v2, rfl, hr2, hb⟩; obtain ⟨A2, c2, e2, hl2, hC2⟩ := Kd.N_reads hr2; subst e2; have HC2 := Aside0.mk hC2; have HL2 := Aside0.mk hl2; have HD1 := Aside0.mk (Kd.C_below HC1.out (below_step (below_alloc (Below.refl w1.heap.size w1) _) hb)); have HB := Aside0.mk (below_step (w := w) (by repeat (first | exact HB.out | apply below_alloc | apply pw_below_drewN)) hb); (try (have hz := HRR.out; have HRR := Aside0.mk (below_step (w := wR) (by repeat (first | exact hz | apply below_alloc | apply pw_below_drewN)) hb); clear hz)); (try (have hz := HRA.out; have HRA := Aside0.mk (below_step (w := wA) (by repeat (first | exact hz | apply below_alloc | apply pw_below_drewN)) hb); clear hz)); (try (have hz := HRQ.out; have HRQ := Aside0.mk (below_step (w := wQ) (by repeat (first | exact hz | apply below_alloc | apply pw_below_drewN)) hb); clear hz)); clear hr2 hb hl2 hC2)
    | (go_at_call 45; (refine (Go.Proofs.Ytaaaljifclecnaa.PTh.galoislaw27_by.calls (fun _ => True) (some ⟨w1.heap.size, 0, none⟩) 3 [0, 2, 1] 3 [[0, 2, 1]] _ (Kd.V_mono (Kd.R_V (lit_ints w1 0 [0, 2, 1] (Nat.zero_le _) (by decide))) (fun _ _ => trivial)) rfl).mono ?_); rintro e2 w2 ⟨v2, rfl, hr2, hb⟩; obtain ⟨A2, c2, e2, hl2, hC2⟩ := Kd.N_reads hr2; subst e2; have HC2 := Aside0.mk hC2; have HL2 := Aside0.mk hl2; have HD1 := Aside0.mk (Kd.C_below HC1.out (below_step (below_alloc (Below.refl w1.heap.size w1) _) hb)); have HB := Aside0.mk (below_step (w := w) (by repeat (first | exact HB.out | apply below_alloc | apply pw_below_drewN)) hb); (try (have hz := HRR.out; have HRR := Aside0.mk (below_step (w := wR) (by repeat (first | exact hz | apply below_alloc | apply pw_below_drewN)) hb); clear hz)); (try (have hz := HRA.out; have HRA := Aside0.mk (below_step (w := wA) (by repeat (first | exact hz | apply below_alloc | apply pw_below_drewN)) hb); clear hz)); (try (have hz := HRQ.out; have HRQ := Aside0.mk (below_step (w := wQ) (by repeat (first | exact hz | apply below_alloc | apply pw_below_drewN)) hb); clear hz)); clear hr2 hb hl2 hC2)
    | (go_at_call 21; (refine (index_any 60 3 A1 c1 [[1, 0, 2], [1, 2, 0]] 3 A2 c2 [[0, 2, 1]] 3 0 _ HD1.out HL1.out HC2.out HL2.out aw_index).mono ?_); rintro e3 w3 ⟨rfl, hb⟩; have HB := Aside0.mk (below_step (w := w) (by repeat (first | exact HB.out | apply below_alloc | apply pw_below_drewN)) hb); (try (have hz := HRR.out; have HRR := Aside0.mk (below_step (w := wR) (by repeat (first | exact hz | apply below_alloc | apply pw_below_drewN)) hb); clear hz)); (try (have hz := HRA.out; have HRA := Aside0.mk (below_step (w := wA) (by repeat (first | exact hz | apply below_alloc | apply pw_below_drewN)) hb); clear hz)); (try (have hz := HRQ.out; have HRQ := Aside0.mk (below_step (w := wQ) (by repeat (first | exact hz | apply below_alloc | apply pw_below_drewN)) hb); clear hz)); clear hb)
    | (go_at_call 22; (refine (reps_any 60 3 A1 c1 [[1, 0, 2], [1, 2, 0]] 3 A2 c2 [[0, 2, 1]] [[0, 1, 2], [1, 0, 2], [2, 0, 1]] 0 _ HD1.out HL1.out HC2.out HL2.out aw_reps).mono ?_); rintro e3 wR ⟨vR, rfl, hs, hb⟩; obtain ⟨AR, cR, eR⟩ := Kd.R_slice (Kd.S_R hs); subst eR; have HB := Aside0.mk (below_step (w := w) (by repeat (first | exact HB.out | apply below_alloc | apply pw_below_drewN)) hb); (try (have hz := HRR.out; have HRR := Aside0.mk (below_step (w := wR) (by repeat (first | exact hz | apply below_alloc | apply pw_below_drewN)) hb); clear hz)); (try (have hz := HRA.out; have HRA := Aside0.mk (below_step (w := wA) (by repeat (first | exact hz | apply below_alloc | apply pw_below_drewN)) hb); clear hz)); (try (have hz := HRQ.out; have HRQ := Aside0.mk (below_step (w := wQ) (by repeat (first | exact hz | apply below_alloc | apply pw_below_drewN)) hb); clear hz)); have HCR := Aside0.mk (Kd.R_reads' (Kd.S_R hs)).2.2; have HLR := Aside0.mk (Kd.R_reads' (Kd.S_R hs)).2.1; have HRR := Aside0.mk (Below.refl wR.heap.size wR); clear hb hs)
    | (go_at_call 46; (refine (act_any 60 3 A1 c1 [[1, 0, 2], [1, 2, 0]] 3 A2 c2 [[0, 2, 1]] [[1, 0, 2], [1, 2, 0]] 0 _ HD1.out HL1.out HC2.out HL2.out aw_act).mono ?_); rintro e3 wA ⟨vA, rfl, hs, hb⟩; obtain ⟨AA, cA, eA⟩ := Kd.R_slice (Kd.S_R hs); subst eA; have HB := Aside0.mk (below_step (w := w) (by repeat (first | exact HB.out | apply below_alloc | apply pw_below_drewN)) hb); (try (have hz := HRR.out; have HRR := Aside0.mk (below_step (w := wR) (by repeat (first | exact hz | apply below_alloc | apply pw_below_drewN)) hb); clear hz)); (try (have hz := HRA.out; have HRA := Aside0.mk (below_step (w := wA) (by repeat (first | exact hz | apply below_alloc | apply pw_below_drewN)) hb); clear hz)); (try (have hz := HRQ.out; have HRQ := Aside0.mk (below_step (w := wQ) (by repeat (first | exact hz | apply below_alloc | apply pw_below_drewN)) hb); clear hz)); have HCA := Aside0.mk (Kd.R_reads' (Kd.S_R hs)).2.2; have HLA := Aside0.mk (Kd.R_reads' (Kd.S_R hs)).2.1; have HRA := Aside0.mk (Below.refl wA.heap.size wA); clear hb hs)
    | (go_at_call 13; (refine (quot_any 60 3 A1 c1 [[1, 0, 2], [1, 2, 0]] 3 A2 c2 [[1, 2, 0]] [[0, 1], [1, 0]] 0 _ HD1.out HL1.out HC2.out HL2.out aw_quot).mono ?_); rintro e3 wQ ⟨vQ, rfl, hs, hb⟩; obtain ⟨AQ, cQ, eQ⟩ := Kd.R_slice (Kd.S_R hs); subst eQ; have HB := Aside0.mk (below_step (w := w) (by repeat (first | exact HB.out | apply below_alloc | apply pw_below_drewN)) hb); (try (have hz := HRR.out; have HRR := Aside0.mk (below_step (w := wR) (by repeat (first | exact hz | apply below_alloc | apply pw_below_drewN)) hb); clear hz)); (try (have hz := HRA.out; have HRA := Aside0.mk (below_step (w := wA) (by repeat (first | exact hz | apply below_alloc | apply pw_below_drewN)) hb); clear hz)); (try (have hz := HRQ.out; have HRQ := Aside0.mk (below_step (w := wQ) (by repeat (first | exact hz | apply below_alloc | apply pw_below_drewN)) hb); clear hz)); have HCQ := Aside0.mk (Kd.R_reads' (Kd.S_R hs)).2.2; have HLQ := Aside0.mk (Kd.R_reads' (Kd.S_R hs)).2.1; have HRQ := Aside0.mk (Below.refl wQ.heap.size wQ); clear hb hs)
    | (go_at_call 27; have hq := HMK.out; (refine (Go.Proofs.Ytaaaljifclecnaa.PRf.galoisref22_SamePerms.calls 60 AA cA [[1, 0, 2], [1, 2, 0]] A1 c1 [[1, 0, 2], [1, 2, 0]] true _ (Kd.C_below HCA.out (by repeat (first | exact HRA.out | apply below_alloc | apply pw_below_drewN))) HLA.out HC1.out HL1.out aw_same2).mono ?_); rintro e4 w4 ⟨rfl, hd⟩; have hqq := hd.out; obtain ⟨q, rfl⟩ := hqq; clear hd hq)
    | (go_at_call 27; (refine (Go.Proofs.Ytaaaljifclecnaa.PRf.galoisref22_SamePerms.calls 60 AR cR [[0, 1, 2], [1, 0, 2], [2, 0, 1]] (some ⟨wQ.heap.size + 1 + 1 + 1, 0, none⟩) 3 [[0, 1, 2], [1, 0, 2], [2, 0, 1]] true _ (Kd.C_below HCR.out (by repeat (first | exact HRR.out | apply below_alloc | apply pw_below_drewN))) HLR.out (lit_three 43 wQ [0, 1, 2] [1, 0, 2] [2, 0, 1] (by decide) (by decide) (by decide) _ _ _ rfl rfl rfl) (by decide) aw_same1).mono ?_); rintro e4 w4 ⟨rfl, hd⟩; have hqq := hd.out; obtain ⟨q, rfl⟩ := hqq; have HMK := Aside0.mk True.intro; clear hd)
    | (go_at_call 16; (refine (Go.Proofs.Ytaaaljifclecnaa.PRf.galoisref22_SameLists.calls 60 AQ cQ [[0, 1], [1, 0]] (some ⟨w1.heap.size + 1 + 1, 0, none⟩) 2 [[0, 1], [1, 0]] true _ (Kd.C_below HCQ.out (by repeat (first | exact HRQ.out | apply below_alloc | apply pw_below_drewN))) HLQ.out (lit_two 42 (w1.drewN q) [0, 1] [1, 0] (by decide) (by decide) _ _ rfl rfl) (by decide) aw_same3).mono ?_); rintro e5 w5 ⟨rfl, hd⟩; have hqq := hd.out; obtain ⟨q5, rfl⟩ := hqq; clear hd))
  go_ret
  exact ⟨rfl, (by repeat (first | exact HB.out | apply below_alloc | apply pw_below_drewN))⟩
end Go.Proofs.Ytaaaljifclecnaa.Bs
end
section
/- What coset.DoubleCosets comes to. -/
namespace Go.Proofs.Ytaaaljifclecnaa.CoP
open Go.RowKit Go.Proofs.YtaaaljifclecnaaW.PrintWords Go.Proofs.YtaaaljifclecnaaW.PrintLast Go.Proofs.Ytaaaljifclecnaa.Plain Go.Proofs.Ytaaaljifclecnaa.Pms Go.Proofs.Ytaaaljifclecnaa.Bs
open Go.Proofs.Ytaaaljifclecnaa.PCo (coset_mul.f coset_key.f)
variable {n : Nat}
structure Cx (n : Nat) (E F K T : List (Pm n)) (C : CosV) : Prop where
  hn : n ≤ 20
  hE : SubL E
  hF : SubL F
  hK : SubL K
  hs : ∀ x ∈ F, x ∈ E
  hk : ∀ x ∈ K, x ∈ E
  gen : ∀ p, p ∈ K ↔ Gen T p
  least : C.least = (reps F E).map Pm.l
  own : C.own = F.map Pm.l
  num : NumIs F (reps F E) C.num
  few : E.length ≤ 240
section
variable {E F K T : List (Pm n)} {C : CosV}
theorem Cx.tE (h : Cx n E F K T C) {q : Pm n} (hq : q ∈ T) : q ∈ E := h.hk _ ((h.gen q).2 (Gen.of hq))
theorem Cx.at (h : Cx n E F K T C) {c : Nat} (hc : c < (reps F E).length) : (reps F E).getD c 1 = (reps F E)[c] := by rw [List.getD_eq_getElem?_getD, List.getElem?_eq_getElem hc]; rfl
theorem Cx.atE (h : Cx n E F K T C) {c : Nat} (hc : c < (reps F E).length) : (reps F E).getD c 1 ∈ E := by rw [h.at hc]; exact (mem_reps.1 (List.getElem_mem hc)).1
theorem Cx.atNum (h : Cx n E F K T C) {p : Pm n} (hp : p ∈ E) : (reps F E).getD (cnum F E p) 1 = lp F p := by rw [h.at (cnum_lt h.hF h.hE h.hs hp), cnum_at h.hF h.hE h.hs hp]
theorem rowD (h : Cx n E F K T C) {p : Pm n} (hp : p ∈ E) : ∀ (gens : List (Pm n)), (∀ q ∈ gens, q ∈ E) → ∀ (seen : List Bool) (O : List Int), seen.length = (reps F E).length → ∃ (seen' : List Bool) (X : List Nat), Ev (fun k => dblRow k C p.l (gens.map Pm.l) seen O) (seen', O ++ ints X) ∧ seen'.length = (reps F E).length ∧ X.Nodup ∧ (∀ x ∈ X, x < (reps F E).length ∧ seen.getD x false = false ∧ ∃ q ∈ gens, x = cnum F E (p * q)) ∧ (∀ c, seen'.getD c false = (seen.getD c false || decide (c ∈ X))) ∧ ∀ q ∈ gens, seen'.getD (cnum F E (p * q)) false = true
  | [], hg, seen, O, hl => ⟨seen, [], by rw [show O ++ ints [] = O from List.append_nil O]; exact Ev.now _, hl, List.nodup_nil, by simp, by simp, by simp⟩
  | q :: r, hg, seen, O, hl => by
    have hq := hg q (List.mem_cons_self ..)
    have hpq : p * q ∈ E := h.hE.mul _ hp _ hq
    have hc := cnum_lt h.hF h.hE h.hs hpq
    have hv := num_cnum h.hF h.hE h.hs h.num hpq
    have hstep : ∀ res, Ev (fun k => (if seen.getD (cnum F E (p * q)) false = true then dblRow k C p.l (r.map Pm.l) seen O else dblRow k C p.l (r.map Pm.l) (seen.set (cnum F E (p * q)) true) (O ++ [((cnum F E (p * q) : Nat) : Int)]))) res → Ev (fun k => dblRow k C p.l ((q :: r).map Pm.l) seen O) res := fun res hres => by
      refine Ev.congr (f := fun k => (coset_mul.f k p.l q.l).bind fun y => (coset_key.f k y).bind fun s => if s.size ≤ 1000 ∧ 0 ≤ (C.num s).getD 0 ∧ (C.num s).getD 0 < (seen.length : Int) then (if seen.getD ((C.num s).getD 0).toNat false = true then dblRow k C p.l (r.map Pm.l) seen O else dblRow k C p.l (r.map Pm.l) (seen.set ((C.num s).getD 0).toNat true) (O ++ [(C.num s).getD 0])) else none) (fun k => rfl) ?_
      refine Ev.bind (mulP h.hn p q) (Ev.bind (keyP h.hn _) ?_)
      have hn := h.hn
      simp only [hv, kb_size, Int.toNat_natCast, if_pos (show n ≤ 1000 ∧ (0 : Int) ≤ ((cnum F E (p * q) : Nat) : Int) ∧ ((cnum F E (p * q) : Nat) : Int) < (seen.length : Int) by omega)]
      exact hres
    by_cases hsn : seen.getD (cnum F E (p * q)) false = true
    · obtain ⟨s', X, h1, h2, h3, h4, h5, h6⟩ := rowD h hp r (fun x hx => hg x (List.mem_cons_of_mem _ hx)) seen O hl
      refine ⟨s', X, hstep _ (by simp only [if_pos hsn]; exact h1), h2, h3, fun x hx => ?_, h5, fun x hx => ?_⟩
      · obtain ⟨a, b, y, hy, e⟩ := h4 x hx
        exact ⟨a, b, y, List.mem_cons_of_mem _ hy, e⟩
      · rcases List.mem_cons.1 hx with rfl | hx
        · rw [h5, hsn]; rfl
        · exact h6 x hx
    · obtain ⟨c, hcc⟩ : ∃ c, cnum F E (p * q) = c := ⟨_, rfl⟩
      rw [hcc] at hsn hc hstep
      have hsf : seen.getD c false = false := Bool.eq_false_iff.2 hsn
      obtain ⟨s', X, h1, h2, h3, h4, h5, h6⟩ := rowD h hp r (fun x hx => hg x (List.mem_cons_of_mem _ hx)) (seen.set c true) (O ++ [(c : Int)]) (by rw [List.length_set]; exact hl)
      have hset : ∀ x, (seen.set c true).getD x false = (seen.getD x false || decide (x = c)) := fun x => by
        rw [List.getD_eq_getElem?_getD, List.getElem?_set]
        by_cases e : c = x
        · subst e
          rw [if_pos rfl, if_pos (by omega)]; simp
        · rw [if_neg e, ← List.getD_eq_getElem?_getD]
          rw [decide_eq_false (fun h => e h.symm), Bool.or_false]
      refine ⟨s', c :: X, hstep _ ?_, h2, List.nodup_cons.2 ⟨fun hm => ?_, h3⟩, fun x hx => ?_, fun x => ?_, fun x hx => ?_⟩
      · simp only [if_neg hsn]
        have e : O ++ ints (c :: X) = O ++ [(c : Int)] ++ ints X := by rw [List.append_assoc]; rfl
        rw [e]; exact h1
      · have := (h4 c hm).2.1
        rw [hset] at this; simp at this
      · rcases List.mem_cons.1 hx with rfl | hx
        · exact ⟨hc, hsf, q, List.mem_cons_self .., hcc.symm⟩
        · obtain ⟨a, b, y, hy, e⟩ := h4 x hx
          rw [hset] at b
          exact ⟨a, (Bool.or_eq_false_iff.1 b).1, y, List.mem_cons_of_mem _ hy, e⟩
      · rw [h5, hset]
        by_cases e : x = c
        · subst e; simp
        · simp [e]
      · rcases List.mem_cons.1 hx with rfl | hx
        · rw [hcc, h5, hset]; simp
        · exact h6 x hx
theorem nodup_small {X : List Nat} {N : Nat} (hX : X.Nodup) (h : ∀ x ∈ X, x < N) : X.length ≤ N := by
  have := hX.length_le_of_subset (l₂ := List.range N) fun x hx => List.mem_range.2 (h x hx)
  rwa [List.length_range] at this
theorem ints_getD (X : List Nat) (j : Nat) (hj : j < X.length) : (ints X).getD j 0 = ((X[j] : Nat) : Int) := by
  unfold ints
  rw [List.getD_eq_getElem?_getD, List.getElem?_map, List.getElem?_eq_getElem hj]; rfl
theorem orbD (h : Cx n E F K T C) {p : Pm n} (hp : p ∈ E) (seen0 : List Bool) (h0 : ∀ c, c < (reps F E).length → Dc F K p ((reps F E).getD c 1) → seen0.getD c false = false) : ∀ (m j : Nat) (seen : List Bool) (X : List Nat), seen.length = (reps F E).length → X.Nodup → (∀ x ∈ X, x < (reps F E).length ∧ Dc F K p ((reps F E).getD x 1)) → (∀ c, seen.getD c false = (seen0.getD c false || decide (c ∈ X))) → cnum F E p ∈ X → (∀ a (ha : a < X.length), a < j → ∀ q ∈ T, cnum F E ((reps F E).getD X[a] 1 * q) ∈ X) → j ≤ X.length → (reps F E).length - j ≤ m →
    ∃ (seen' : List Bool) (X' : List Nat), (∃ Kk, ∀ k, Kk ≤ k → ∀ q, m < q → dblOrb k C (T.map Pm.l) q j seen (ints X) = some (seen', ints X')) ∧ seen'.length = (reps F E).length ∧ X'.Nodup ∧ (∀ c, c ∈ X' ↔ c < (reps F E).length ∧ Dc F K p ((reps F E).getD c 1)) ∧ ∀ c, seen'.getD c false = (seen0.getD c false || decide (c ∈ X')) := by
  have fin : ∀ X : List Nat, (∀ x ∈ X, x < (reps F E).length ∧ Dc F K p ((reps F E).getD x 1)) → cnum F E p ∈ X → (∀ x ∈ X, ∀ q ∈ T, cnum F E ((reps F E).getD x 1 * q) ∈ X) → ∀ c, c ∈ X ↔ c < (reps F E).length ∧ Dc F K p ((reps F E).getD c 1) := by
    intro X h1 h2 h3 c
    refine ⟨h1 c, fun ⟨hc, hd⟩ => ?_⟩
    obtain ⟨x, hx, y, hy, e⟩ := hd
    have key : ∀ y, Gen T y → cnum F E (p * y) ∈ X := fun y hy => by
      refine Gen.induct (P := fun y => cnum F E (p * y) ∈ X) ?_ (fun a s ha hga hs => ?_) hy
      · show cnum F E (p * 1) ∈ X; rw [Pm.mul_one]; exact h2
      · have hpa : p * a ∈ E := h.hE.mul _ hp _ (h.hk _ ((h.gen a).2 hga))
        have h4 := h3 _ ha s hs
        rw [h.atNum hpa] at h4
        obtain ⟨u, hu, eu⟩ := lp_mem h.hF (p * a)
        rw [eu, Pm.mul_assoc, cnum_mul h.hF _ hu, Pm.mul_assoc] at h4
        exact h4
    have h5 := key y ((h.gen y).1 hy)
    have h6 : cnum F E ((reps F E).getD c 1) = c := by rw [h.at hc]; exact cnum_rep h.hE.srt hc
    rw [e, Pm.mul_assoc, cnum_mul h.hF _ hx] at h6
    rw [← h6]; exact h5
  intro m
  induction m with
  | zero =>
    intro j seen X hl hX hx hsn hpX hcl hj hm
    have hXl := nodup_small hX (fun x hh => (hx x hh).1)
    have hjX : ¬ j < X.length := by omega
    refine ⟨seen, X, ⟨0, fun k _ q hq => ?_⟩, hl, hX, fin X hx hpX (fun x hh q hq => ?_), hsn⟩
    · obtain ⟨q, rfl⟩ : ∃ t, q = t + 1 := ⟨q - 1, by omega⟩
      rw [dblOrb, if_neg (by unfold ints; rw [List.length_map]; exact hjX)]
    · obtain ⟨a, ha, rfl⟩ := List.getElem_of_mem hh
      exact hcl a ha (by omega) q hq
  | succ m ih =>
    intro j seen X hl hX hx hsn hpX hcl hj hm
    have hXl := nodup_small hX (fun x hh => (hx x hh).1)
    by_cases hjX : j < X.length
    · have hXj := hx X[j] (List.getElem_mem hjX)
      obtain ⟨c, hc⟩ : ∃ c, X[j] = c := ⟨_, rfl⟩
      rw [hc] at hXj
      have hcE := h.atE hXj.1
      obtain ⟨s1, Y, ⟨K1, hK1⟩, g2, g3, g4, g5, g6⟩ := rowD h hcE T (fun q hq => h.tE hq) seen (ints X) hl
      replace hK1 : ∀ k, K1 ≤ k → dblRow k C ((reps F E).getD c 1).l (T.map Pm.l) seen (ints X) = some (s1, ints X ++ ints Y) := hK1
      have hd : ∀ q ∈ T, Dc F K p ((reps F E).getD (cnum F E ((reps F E).getD c 1 * q)) 1) := fun q hq => by
        rw [h.atNum (h.hE.mul _ hcE _ (h.tE hq))]
        exact (hXj.2.trans h.hF h.hK (Dc.right h.hF _ ((h.gen q).2 (Gen.of hq)))).trans h.hF h.hK (Dc.lp h.hF h.hK _)
      have hYX : ∀ y ∈ Y, y ∉ X := fun y hy hyX => by
        have h1 := (g4 y hy).2.1
        rw [hsn, decide_eq_true hyX, Bool.or_true] at h1
        cases h1
      have hmem : ∀ q ∈ T, cnum F E ((reps F E).getD c 1 * q) ∈ X ++ Y := fun q hq => by
        have h1 := g6 q hq
        rw [g5, hsn, h0 _ (cnum_lt h.hF h.hE h.hs (h.hE.mul _ hcE _ (h.tE hq))) (hd q hq), Bool.false_or, Bool.or_eq_true, decide_eq_true_iff, decide_eq_true_iff] at h1
        exact List.mem_append.2 h1
      obtain ⟨s2, X2, ⟨K2, hK2⟩, f2, f3, f4, f5⟩ := ih (j + 1) s1 (X ++ Y) g2 (List.nodup_append.2 ⟨hX, g3, fun a ha b hb e => hYX b hb (e ▸ ha)⟩) (fun x hxx => by
          rcases List.mem_append.1 hxx with h1 | h1
          · exact hx x h1
          · obtain ⟨a1, _, q, hq, e⟩ := g4 x h1
            exact ⟨a1, e ▸ hd q hq⟩) (fun x => by
          rw [g5, hsn, Bool.or_assoc]
          congr 1
          by_cases a1 : x ∈ X <;> by_cases a2 : x ∈ Y <;> simp [a1, a2]) (List.mem_append_left _ hpX) (fun a ha haj q hq => by
          by_cases e : a = j
          · subst e
            have e2 : (X ++ Y)[a] = c := by rw [List.getElem_append_left hjX, hc]
            rw [e2]; exact hmem q hq
          · have ha2 : a < X.length := by omega
            rw [List.getElem_append_left ha2]
            exact List.mem_append_left _ (hcl a ha2 (by omega) q hq)) (by rw [List.length_append]; omega) (by omega)
      refine ⟨s2, X2, ⟨max K1 K2, fun k hk q hq => ?_⟩, f2, f3, f4, f5⟩
      obtain ⟨q, rfl⟩ : ∃ t, q = t + 1 := ⟨q - 1, by omega⟩
      have hRl : (reps F E).length ≤ 240 := Nat.le_trans (List.length_filter_le _ _) h.few
      have e1 : C.least.getD c [] = ((reps F E).getD c 1).l := by
        have hcl := hXj.1
        have e9 := h.at hcl
        rw [e9, h.least, List.getD_eq_getElem?_getD, List.getElem?_map, List.getElem?_eq_getElem hcl]; rfl
      have e3 : C.least.length = (reps F E).length := by rw [h.least, List.length_map]
      rw [dblOrb, if_pos (by unfold ints; rw [List.length_map]; exact hjX), ints_getD X j hjX, hc, Int.toNat_natCast, if_pos ⟨by omega, by rw [e3]; have := hXj.1; omega, by unfold ints; rw [List.length_map]; omega⟩, e1, hK1 k (by omega), Option.bind_some]
      have e2 : ints X ++ ints Y = ints (X ++ Y) := by unfold ints; rw [List.map_append]
      show dblOrb k C (T.map Pm.l) q (j + 1) s1 (ints X ++ ints Y) = _
      rw [e2]
      exact hK2 k (by omega) q (by omega)
    · refine ⟨seen, X, ⟨0, fun k _ q hq => ?_⟩, hl, hX, fin X hx hpX (fun x hh q hq => ?_), hsn⟩
      · obtain ⟨q, rfl⟩ : ∃ t, q = t + 1 := ⟨q - 1, by omega⟩
        rw [dblOrb, if_neg (by unfold ints; rw [List.length_map]; exact hjX)]
      · obtain ⟨a, ha, rfl⟩ := List.getElem_of_mem hh
        exact hcl a ha (by omega) q hq
theorem isD_lp (h : Cx n E F K T C) {p : Pm n} (hp : p ∈ E) (hd : isD F K E p = true) : lp F p = p := by
  have h1 := isD_iff.1 hd (lp F p) (lp_E h.hF h.hE h.hs hp) (Dc.lp h.hF h.hK p)
  have h2 := lp_self_le h.hF p
  rcases Lt.total (lp F p) p with h3 | h3 | h3
  · exact absurd h3 h1
  · exact h3
  · exact absurd h3 h2
theorem allDP (h : Cx n E F K T C) : ∀ (d i : Nat) (seen : List Bool), i + d = (reps F E).length → seen.length = (reps F E).length → (∀ c, c < (reps F E).length → (seen.getD c false = true ↔ ∃ r ∈ (reps F E).take i, Dc F K r ((reps F E).getD c 1))) →
    Ev (fun k => dblAll k C (T.map Pm.l) i (((reps F E).drop i).map Pm.l) seen ((((reps F E).take i).filter (isD F K E)).map Pm.l) ((((reps F E).take i).filter (isD F K E)).map fun p => (((dcl F K E p).length : Nat) : Int))) (((reps F E).filter (isD F K E)).map Pm.l, ((reps F E).filter (isD F K E)).map fun p => (((dcl F K E p).length : Nat) : Int)) := by
  have hRl : (reps F E).length ≤ 240 := Nat.le_trans (List.length_filter_le _ _) h.few
  intro d
  induction d with
  | zero =>
    intro i seen hi hl hs
    rw [List.drop_eq_nil_of_le (by omega), List.take_of_length_le (by omega)]
    exact Ev.now _
  | succ d ih =>
    intro i seen hi hl hs
    have hil : i < (reps F E).length := by omega
    have ep := h.at hil
    have hpE := h.atE hil
    obtain ⟨p, hp⟩ : ∃ p, (reps F E)[i] = p := ⟨_, rfl⟩
    rw [ep, hp] at hpE
    have ep : (reps F E).getD i 1 = p := ep.trans hp
    have hlpp : lp F p = p := (mem_reps.1 (hp ▸ List.getElem_mem hil)).2
    have hcp : cnum F E p = i := by rw [← hp]; exact cnum_rep h.hE.srt hil
    have et : (reps F E).take (i + 1) = (reps F E).take i ++ [p] := by rw [← hp]; exact (List.take_append_getElem hil).symm
    rw [List.drop_eq_getElem_cons hil, List.map_cons, hp]
    have hbefore : ∀ r ∈ reps F E, Lt r p → r ∈ (reps F E).take i := fun r hr hlt => by
      obtain ⟨a, ha, rfl⟩ := List.getElem_of_mem hr
      have hs2 := reps_sorted (F := F) h.hE.srt
      rcases Nat.lt_or_ge a i with h1 | h1
      · exact List.mem_take_iff_getElem.2 ⟨a, by omega, rfl⟩
      · rcases Nat.lt_or_ge i a with h2 | h2
        · have h3 := List.pairwise_iff_getElem.1 hs2 i a hil ha h2
          rw [hp] at h3
          exact absurd hlt (Lt.asymm h3)
        · have e : i = a := by omega
          subst e
          rw [hp] at hlt
          exact absurd hlt (Lt.irrefl _)
    have hless : ∀ r ∈ (reps F E).take i, Lt r p := fun r hr => by
      obtain ⟨a, ha, rfl⟩ := List.mem_take_iff_getElem.1 hr
      have h3 := List.pairwise_iff_getElem.1 (reps_sorted (F := F) h.hE.srt) a i (by omega) hil (by omega)
      rwa [hp] at h3
    have hseen : seen.getD i false = true ↔ isD F K E p ≠ true := by
      rw [hs i hil, ep]
      constructor
      · rintro ⟨r, hr, hd⟩ hD
        exact isD_iff.1 hD r (mem_reps.1 (List.mem_of_mem_take hr)).1 (hd.symm h.hF h.hK) (hless r hr)
      · intro hD
        obtain ⟨q, hq, hd, hlt⟩ : ∃ q ∈ E, Dc F K p q ∧ Lt q p := Classical.byContradiction fun hh => hD (isD_iff.2 fun r hr hdr hlt => hh ⟨r, hr, hdr, hlt⟩)
        have hlq : Lt (lp F q) p := by
          have h2 := lp_self_le h.hF q
          rcases Lt.total (lp F q) q with h3 | h3 | h3
          · exact h3.trans hlt
          · rw [h3]; exact hlt
          · exact absurd h3 h2
        exact ⟨lp F q, hbefore _ ((lp_reps h.hF h.hE h.hs q).2 hq) hlq, ((Dc.lp_iff h.hF h.hK p q).1 hd).symm h.hF h.hK⟩
    by_cases hD : isD F K E p = true
    · have hsf : seen.getD i false = false := Bool.eq_false_iff.2 fun hh => hseen.1 hh hD
      have h0 : ∀ c, c < (reps F E).length → Dc F K p ((reps F E).getD c 1) → (seen).getD c false = false := fun c hc hd => Bool.eq_false_iff.2 fun hh => by
        obtain ⟨r, hr, hdr⟩ := (hs c hc).1 hh
        exact isD_iff.1 hD r (mem_reps.1 (List.mem_of_mem_take hr)).1 (hd.trans h.hF h.hK (hdr.symm h.hF h.hK)) (hless r hr)
      have hset : ∀ x, (seen.set i true).getD x false = (seen.getD x false || decide (x ∈ [i])) := fun x => by
        rw [List.getD_eq_getElem?_getD, List.getElem?_set]
        by_cases e : i = x
        · subst e
          rw [if_pos rfl, if_pos (by omega)]; simp
        · rw [if_neg e, ← List.getD_eq_getElem?_getD]
          have : x ∉ [i] := by simp; exact fun h => e h.symm
          rw [decide_eq_false this, Bool.or_false]
      obtain ⟨s', X, ⟨Kk, hKk⟩, g2, g3, g4, g5⟩ := orbD h hpE seen h0 (reps F E).length 0 (seen.set i true) [i] (by rw [List.length_set]; exact hl) (List.nodup_cons.2 ⟨by simp, List.nodup_nil⟩) (fun x hx => by rw [List.mem_singleton.1 hx, ep]; exact ⟨hil, Dc.refl h.hF h.hK p⟩) hset (by rw [hcp]; exact List.mem_singleton.2 rfl) (fun a ha haj => by omega) (Nat.zero_le _) (by omega)
      have hcount : (dcl F K E p).length = X.length * F.length := by
        refine count_cosets h.hF h.hE h.hs (fun q => decide (Dc F K p q)) (fun q hq => decide_eq_decide.2 (Dc.lp_iff h.hF h.hK p q)) g3 (fun c => ?_)
        rw [g4, decide_eq_true_iff]
      have hdl : (dcl F K E p).length ≤ 240 := Nat.le_trans (List.length_filter_le _ _) h.few
      have hmul : wrap64 (((ints X).length : Int) * (C.own.length : Int)) = (((dcl F K E p).length : Nat) : Int) := by
        have e1 : (ints X).length = X.length := by unfold ints; rw [List.length_map]
        rw [h.own, List.length_map, e1, hcount, ← Int.natCast_mul, ← hcount]
        exact w64_small (by omega) (by omega)
      have hs2 : ∀ c, c < (reps F E).length → (s'.getD c false = true ↔ ∃ r ∈ (reps F E).take (i + 1), Dc F K r ((reps F E).getD c 1)) := fun c hc => by
        rw [g5, Bool.or_eq_true, hs c hc, decide_eq_true_iff, g4, et]
        constructor
        · rintro (⟨r, hr, hd⟩ | ⟨_, hd⟩)
          · exact ⟨r, List.mem_append_left _ hr, hd⟩
          · exact ⟨p, List.mem_append_right _ (List.mem_singleton.2 rfl), hd⟩
        · rintro ⟨r, hr, hd⟩
          rcases List.mem_append.1 hr with hr | hr
          · exact .inl ⟨r, hr, hd⟩
          · rw [List.mem_singleton.1 hr] at hd; exact .inr ⟨hc, hd⟩
      have hnext := ih (i + 1) s' (by omega) g2 hs2
      rw [et, List.filter_append, List.filter_cons, if_pos hD, List.filter_nil, List.map_append, List.map_append] at hnext
      refine Ev.congr (f := fun k => (if seen.getD i false = true then dblAll k C (T.map Pm.l) (i + 1) (((reps F E).drop (i + 1)).map Pm.l) seen ((((reps F E).take i).filter (isD F K E)).map Pm.l) ((((reps F E).take i).filter (isD F K E)).map fun p => (((dcl F K E p).length : Nat) : Int)) else (dblOrb k C (T.map Pm.l) k 0 (seen.set i true) [(i : Int)]).bind fun t => dblAll k C (T.map Pm.l) (i + 1) (((reps F E).drop (i + 1)).map Pm.l) t.1 ((((reps F E).take i).filter (isD F K E)).map Pm.l ++ [p.l]) ((((reps F E).take i).filter (isD F K E)).map (fun p => (((dcl F K E p).length : Nat) : Int)) ++ [wrap64 ((t.2.length : Int) * (C.own.length : Int))]))) (fun k => rfl) ?_
      simp only [hsf, Bool.false_eq_true, if_false]
      refine Ev.bind (a := (s', ints X)) ⟨max Kk ((reps F E).length + 1), fun k hk => hKk k (by omega) k (by omega)⟩ ?_
      simp only [hmul]
      exact hnext
    · have hst := hseen.2 hD
      have hs2 : ∀ c, c < (reps F E).length → (seen.getD c false = true ↔ ∃ r ∈ (reps F E).take (i + 1), Dc F K r ((reps F E).getD c 1)) := fun c hc => by
        rw [hs c hc, et]
        constructor
        · rintro ⟨r, hr, hd⟩; exact ⟨r, List.mem_append_left _ hr, hd⟩
        · rintro ⟨r, hr, hd⟩
          rcases List.mem_append.1 hr with hr | hr
          · exact ⟨r, hr, hd⟩
          · rw [List.mem_singleton.1 hr] at hd
            obtain ⟨r2, hr2, hd2⟩ := (hs i hil).1 hst
            rw [ep] at hd2
            exact ⟨r2, hr2, hd2.trans h.hF h.hK hd⟩
      have hnext := ih (i + 1) seen (by omega) hl hs2
      rw [et, List.filter_append, List.filter_cons, if_neg hD, List.filter_nil, List.append_nil] at hnext
      refine Ev.congr (f := fun k => (if seen.getD i false = true then dblAll k C (T.map Pm.l) (i + 1) (((reps F E).drop (i + 1)).map Pm.l) seen ((((reps F E).take i).filter (isD F K E)).map Pm.l) ((((reps F E).take i).filter (isD F K E)).map fun p => (((dcl F K E p).length : Nat) : Int)) else (dblOrb k C (T.map Pm.l) k 0 (seen.set i true) [(i : Int)]).bind fun t => dblAll k C (T.map Pm.l) (i + 1) (((reps F E).drop (i + 1)).map Pm.l) t.1 ((((reps F E).take i).filter (isD F K E)).map Pm.l ++ [p.l]) ((((reps F E).take i).filter (isD F K E)).map (fun p => (((dcl F K E p).length : Nat) : Int)) ++ [wrap64 ((t.2.length : Int) * (C.own.length : Int))]))) (fun k => rfl) ?_
      simp only [hst, if_true]
      exact hnext
theorem dreps_eq (h : Cx n E F K T C) : (reps F E).filter (isD F K E) = dreps F K E := by
  unfold reps dreps
  rw [List.filter_filter]
  refine List.filter_congr fun p hp => ?_
  by_cases c : isD F K E p = true
  · rw [c, Bool.true_and, decide_eq_true (isD_lp h hp c)]
  · rw [Bool.eq_false_iff.2 c, Bool.false_and]
theorem doubP (h : Cx n E F K T C) : Ev (fun k => dblAll k C (T.map Pm.l) 0 C.least (List.replicate C.least.length false) [] []) ((dreps F K E).map Pm.l, (dreps F K E).map fun p => (((dcl F K E p).length : Nat) : Int)) := by
  have := allDP h (reps F E).length 0 (List.replicate (reps F E).length false) (by omega) (by rw [List.length_replicate]) (fun c hc => by
    rw [List.getD_eq_getElem?_getD, List.getElem?_replicate, if_pos hc]
    simp)
  rw [dreps_eq h] at this
  rw [h.least, List.length_map]
  exact this
end
end Go.Proofs.Ytaaaljifclecnaa.CoP
end
section
/- DoubleCosets of two groups and a third one. -/
namespace Go.Proofs.Ytaaaljifclecnaa.QPr
open Go.RowKit Go.Proofs.YtaaaljifclecnaaW.PrintWords Go.Proofs.Ytaaaljifclecnaa.Plain Go.Proofs.Ytaaaljifclecnaa.Pms Go.Proofs.Ytaaaljifclecnaa.CoP
open Go.Proofs.Ytaaaljifclecnaa.Bs (Lt checkM cosM CosV doubV dblAll fitL Grp sorted_nodup)
variable {n : Nat}
theorem doub_bad {a0 L0 a1 L1 a2 L2} {e : Int} (h : Ev (fun k => checkM k (a0, L0) [(a1, L1), (a2, L2)] []) e) (he : e ≠ 0) : Ev (fun k => doubV k a0 L0 a1 L1 a2 L2) ([], [], e) := by
  unfold doubV
  refine Ev.bind h ?_
  simp only [if_neg he]; exact Ev.now _
theorem doub_ok {a0 L0 a1 L1 a2 L2 n} {S E T F U K : List (Pm n)} (h : Pair a0 L0 a1 L1 n S E T F) (g : Pair a0 L0 a2 L2 n S E U K) (hs : ∀ x ∈ F, x ∈ E) (hk : ∀ x ∈ K, x ∈ E) : Ev (fun k => doubV k a0 L0 a1 L1 a2 L2) ((dreps F K E).map Pm.l, (dreps F K E).map (fun p => (((dcl F K E p).length : Nat) : Int)), 0) := by
  obtain ⟨C, h1, h2, h3, h4, h5⟩ := cos_ev h hs
  have hsg := gens_sub h
  have hkg := gens_sub g
  have hcx : Cx n E F K U C := ⟨h.hn, h.subE, h.subF, g.subF, hs, hk, g.allF, h4, h3, h5, h.lenE⟩
  have hfit : fitL C.least = true ∧ L2.length < 1000000 := ⟨by rw [h4]; exact fit_reps h.hn F h.lenE, by rw [← g.g1, List.length_map]; have := g.hT; omega⟩
  have hc := check_rest h.hn h.hS h.srtE h.allE (by have := h.lenE; omega) [T, U] (fun x hx => by
    rcases List.mem_cons.1 hx with e | e
    · rw [e]; exact h.hT
    · rw [List.mem_singleton.1 e]; exact g.hT) (perms := []) rfl
  rw [if_pos (fun x hx => by
    rcases List.mem_cons.1 hx with e | e
    · rw [e]; exact hsg.1 hs
    · rw [List.mem_singleton.1 e]; exact hkg.1 hk)] at hc
  simp only [List.map_cons, List.map_nil, h.g0, h.g1, g.g1, ← h.d0] at hc
  unfold doubV
  have hc : Ev (fun k => checkM k (a0, L0) [(a1, L1), (a2, L2)] []) 0 := by
    have e1 : a1 = a0 := by rw [h.d0, h.d1]
    have e2 : a2 = a0 := by rw [g.d0, g.d1]
    rw [e1, e2]; exact hc
  refine Ev.bind hc ?_
  simp only [if_true]
  refine Ev.bind h1 ?_
  simp only [if_pos hfit]
  have := doubP hcx
  rw [g.g1] at this
  exact Ev.bind this (Ev.now _)
end Go.Proofs.Ytaaaljifclecnaa.QPr
end
