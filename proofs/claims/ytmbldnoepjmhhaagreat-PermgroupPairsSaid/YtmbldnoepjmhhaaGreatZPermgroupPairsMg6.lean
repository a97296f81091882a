/- Texts of this claim put together (wip/tools/merge.py). -/
import Derived.Test.YtmbldnoepjmhhaaGreatZPermgroupPairsPPgx0
import Derived.Test.YtmbldnoepjmhhaaGreatZPermgroupPairsPPgx1
import Derived.Test.YtmbldnoepjmhhaaGreatZPermgroupPairsMg4
import Derived.Test.YtmbldnoepjmhhaaGreatZPermgroupPairsMg5
import Derived.Test.YtmbldnoepjmhhaaGreatZPermgroupPairsMg1
import Derived.Test.YtmbldnoepjmhhaaGreatZPermgroupPairsMg0
import Derived.Test.YtmbldnoepjmhhaaGreatZPermgroupPairsPGrx0
import Derived.Test.YtmbldnoepjmhhaaGreatZPermgroupPairsPGrx1
set_option linter.unusedVariables false
set_option linter.unusedSimpArgs false
section
/- The walk of galoislaw23.awake: the chapter's example. -/
namespace Go.Proofs.YtmbldnoepjmhhaaGreat.Bs
open Go.RowKit Go.Proofs.YtmbldnoepjmhhaaGreatW.PrintWords Go.Proofs.YtmbldnoepjmhhaaGreatW.PrintLast Go.Proofs.YtmbldnoepjmhhaaGreatW.PrintMore Go.Proofs.YtmbldnoepjmhhaaGreat.Plain Go.Proofs.YtmbldnoepjmhhaaGreat.PBs Go.Proofs.YtmbldnoepjmhhaaGreat.PAll
theorem lit_ints (W : World) (base : Nat) (xs : List Int) (hb : base ≤ W.heap.size) (hl : xs.length ≤ 1000) : Kd.R (Kd.int .i64) 3 (W.alloc (.cells (xs.map (Value.int .i64)).toArray 3)) base (fun b => b = W.heap.size) (.slice (some ⟨W.heap.size, 0, none⟩) xs.length xs.length) xs := by
  refine ⟨fun k hk => ?_, ?_⟩
  · have : W.heap.size = k := by simpa [Value.ownBlock] using hk
    exact this.symm
  · exact OwnRow.lit (ps := xs) (inner := xs.map (Value.int .i64)) W base ⟨by rw [List.length_map]; exact (Nat.mul_one _).symm, fun j p hj => by
      have hjl := (List.getElem?_eq_some_iff.1 hj).1
      show ((xs.map (Value.int .i64)).drop (j * 1)).take 1 = [Value.int .i64 p]
      rw [Nat.mul_one, List.drop_eq_getElem_cons (by simpa using hjl)]
      simp [(List.getElem?_eq_some_iff.1 hj).2]⟩ hb (by show xs.length ≤ 9223372036854775807; omega)
theorem lit_kvs (W : World) (base : Nat) (svs : List Sv) (hb : base ≤ W.heap.size) (hl : svs.length ≤ 1000) : Kd.R kv 39 (W.alloc (.cells (svs.map svE).toArray 39)) base (fun b => b = W.heap.size) (.slice (some ⟨W.heap.size, 0, none⟩) svs.length svs.length) svs := by
  refine ⟨fun k hk => ?_, ?_⟩
  · have : W.heap.size = k := by simpa [Value.ownBlock] using hk
    exact this.symm
  · exact OwnRow.lit (ps := svs) (inner := svs.map svE) W base ⟨by rw [List.length_map]; exact (Nat.mul_one _).symm, fun j p hj => by
      have hjl := (List.getElem?_eq_some_iff.1 hj).1
      show ((svs.map svE).drop (j * 1)).take 1 = [svE p]
      rw [Nat.mul_one, List.drop_eq_getElem_cons (by simpa using hjl)]
      simp [(List.getElem?_eq_some_iff.1 hj).2]⟩ hb (by show svs.length ≤ 9223372036854775807; omega)
set_option maxRecDepth 100000 in
theorem aw_order : permgroup_Order.f 60 4 [[1, 2, 3, 0], [2, 1, 0, 3]] = some (8, 0) := by decide +kernel
set_option maxRecDepth 100000 in
theorem aw_reduced : Go.Proofs.YtmbldnoepjmhhaaGreat.PPg.permgroup_Reduced.f 60 4 [[1, 2, 3, 0], [2, 1, 0, 3]] = some (4, [[0, 3, 2, 1], [1, 0, 3, 2]], 0) := by decide +kernel
set_option maxRecDepth 100000 in
theorem aw_index : permgroup_Index.f 60 4 [[1, 2, 3, 0], [2, 1, 0, 3]] [1, 2, 3, 0] = some (3, 0) := by decide +kernel
def aw_l0 : S83 := ⟨0, [0, 1, 2, 3], [[0, 1, 2, 3], [1, 0, 3, 2], [2, 1, 0, 3], [3, 0, 1, 2]]⟩
def aw_l1 : S83 := ⟨1, [1, 3], [[0, 1, 2, 3], [0, 3, 2, 1]]⟩
set_option maxRecDepth 100000 in
theorem aw_chain : permgroup_Chain.f 60 4 [[1, 2, 3, 0], [2, 1, 0, 3]] = some ([aw_l0, aw_l1], 0) := by kernel_rfl
theorem aw_equal : Go.Proofs.YtmbldnoepjmhhaaGreat.PRf.galoisref23_Equal.f 60 4 [[0, 3, 2, 1], [1, 0, 3, 2]] 4 [[0, 3, 2, 1], [1, 0, 3, 2]] = some true := by decide +kernel
theorem aw_same : Go.Proofs.YtmbldnoepjmhhaaGreat.PRf.galoisref22_Same.f 60 [1, 3] [1, 3] = some true := by decide +kernel
theorem aw_cells {e base g n c : Nat} {ok : Nat → Prop} {w : World} (h : Kd.R k83 e w base ok (.slice (some ⟨g, 0, none⟩) n c) [aw_l0, aw_l1]) : w.cell? ⟨g, 3, none⟩ = some (.int .i64 1) ∧ ∃ A co, w.cell? ⟨g, 4, none⟩ = some (.slice A 2 co) ∧ 2 ≤ co ∧ Kd.C (Kd.int .i64) w A 2 [1, 3] := by
  obtain ⟨_, _, hC⟩ := Kd.R_reads' h
  obtain ⟨_, _, h3⟩ := hC
  obtain ⟨ad, ea, hc⟩ := h3 (by decide)
  obtain rfl := Option.some.inj ea
  obtain ⟨cs, hcl, hK, hcc⟩ := hc 1 aw_l1 rfl
  obtain ⟨A1, c1, A2, c2, rfl, hl1, hC1, _, _⟩ := k83_open hK
  exact ⟨hcc 0 _ rfl, A1, c1, hcc 1 _ rfl, hl1, hC1⟩
theorem lit_two (W : World) (xs ys : List Int) (hx : xs.length ≤ 1000) (hy : ys.length ≤ 1000) (b2 b3 : Nat) (h2 : b2 = W.heap.size + 1) (h3 : b3 = W.heap.size + 1 + 1) :
    Kd.C (Kd.slice 3 (Kd.int .i64)) (((W.alloc (.cells (xs.map (Value.int .i64)).toArray 3)).alloc (.cells (ys.map (Value.int .i64)).toArray 3)).alloc (.cells #[.slice (some ⟨W.heap.size, 0, none⟩) xs.length xs.length, .slice (some ⟨b2, 0, none⟩) ys.length ys.length] 39)) (some ⟨b3, 0, none⟩) 2 [xs, ys] := by
  have s1 : (W.alloc (.cells (xs.map (Value.int .i64)).toArray 3)).heap.size = b2 := by rw [h2]; simp
  have s2 : ((W.alloc (.cells (xs.map (Value.int .i64)).toArray 3)).alloc (.cells (ys.map (Value.int .i64)).toArray 3)).heap.size = b3 := by rw [h3]; simp
  have r1 := lit_ints W 0 xs (Nat.zero_le _) hx
  have r2 := lit_ints (W.alloc (.cells (xs.map (Value.int .i64)).toArray 3)) 0 ys (Nat.zero_le _) hy
  rw [s1] at r2
  have r3 := lit_kvs ((W.alloc (.cells (xs.map (Value.int .i64)).toArray 3)).alloc (.cells (ys.map (Value.int .i64)).toArray 3)) 0 [(some ⟨W.heap.size, 0, none⟩, xs.length, xs.length), (some ⟨b2, 0, none⟩, ys.length, ys.length)] (Nat.zero_le _) (by simp)
  rw [s2] at r3
  refine C_of_kv r3 rfl (fun i sv p e1 e2 => ?_)
  match i, e1, e2 with
  | 0, e1, e2 =>
    obtain rfl := Option.some.inj e1
    obtain rfl := Option.some.inj e2
    exact PermAt.of_R (Kd.R_below (Kd.R_below r1 (below_alloc (Below.refl _ _) _)) (below_alloc (Below.refl _ _) _))
  | 1, e1, e2 =>
    obtain rfl := Option.some.inj e1
    obtain rfl := Option.some.inj e2
    exact PermAt.of_R (Kd.R_below r2 (below_alloc (Below.refl _ _) _))
def galoislaw23_awake.f : Option Bool := some true
set_option maxHeartbeats 16000000 in
set_option maxRecDepth 100000 in
theorem galoislaw23_awake.calls (r : Bool) (w : World) (h : galoislaw23_awake.f = some r) : Calls Tryz.prog 19 #[] w fun e w' => e = .returned (.bool r) ∧ Below w.heap.size w w' := by
  obtain rfl : true = r := Option.some.inj h
  clear h
  have hu := Tryz.underlying24
  go_enter Tryz.func19, Tryz.ntmps19
  have HB := Aside0.mk (Below.refl w.heap.size w)
  go_wp2_with (first
    | (go_at_call 61; (refine (Go.Proofs.YtmbldnoepjmhhaaGreat.PPg.galoislaw23_example.calls 4 [[1, 2, 3, 0], [2, 1, 0, 3]] _ rfl).mono ?_); rintro e1 w1 ⟨v1, rfl, hr1, hb⟩; obtain ⟨A1, c1, e1, hl1, hC1⟩ := Kd.N_reads hr1; subst e1; have HC1 := Aside0.mk hC1; have HL1 := Aside0.mk hl1; have HB := Aside0.mk (below_step (w := w) (by first | exact HB.out | exact below_alloc HB.out _) hb); try (have HR := Aside0.mk (below_step (w := wR.alloc (.cells #[.int .i64 4, .slice A3 2 c3] 24)) (by first | exact HR.out | exact below_alloc HR.out _ | exact Below.refl _ _) hb)); clear hr1 hb hl1 hC1)
    | (go_at_call 35; (refine (permgroup_Order.calls 60 4 A1 c1 [[1, 2, 3, 0], [2, 1, 0, 3]] 8 0 _ HC1.out HL1.out aw_order).mono ?_); rintro e2 w2 ⟨rfl, hb⟩; have HB := Aside0.mk (below_step (w := w) HB.out hb); clear hb)
    | (go_at_call 62; (refine (Go.Proofs.YtmbldnoepjmhhaaGreat.PPg.permgroup_Reduced.calls 60 4 A1 c1 [[1, 2, 3, 0], [2, 1, 0, 3]] 4 [[0, 3, 2, 1], [1, 0, 3, 2]] 0 _ HC1.out HL1.out aw_reduced).mono ?_); rintro e3 wR ⟨v3, rfl, hr3, hb⟩; obtain ⟨A3, c3, e3, hl3, hC3⟩ := Kd.R_reads (Kd.S_R hr3); subst e3; have HC3 := Aside0.mk hC3; have HL3 := Aside0.mk hl3; have HB := Aside0.mk (below_step (w := w) HB.out hb); have HR := Aside0.mk True.intro; clear hr3 hb hl3 hC3)
    | (go_at_call 63; (refine (permgroup_Index.calls 60 4 A1 c1 [[1, 2, 3, 0], [2, 1, 0, 3]] (some ⟨w1.heap.size, 0, none⟩) 4 [1, 2, 3, 0] 3 0 _ (Kd.C_below HC1.out (below_alloc (Below.refl _ _) _)) HL1.out (Kd.R_reads' (lit_ints w1 0 [1, 2, 3, 0] (Nat.zero_le _) (by decide))).2.2 (by decide) aw_index).mono ?_); rintro e4 w4 ⟨rfl, hb⟩; have HB := Aside0.mk (below_step (w := w) (below_alloc HB.out _) hb); have HR := Aside0.mk (below_step (w := wR.alloc (.cells #[.int .i64 4, .slice A3 2 c3] 24)) (below_alloc HR.out _) hb); clear hb)
    | (go_at_call 64; (refine (permgroup_Chain.calls 60 4 A1 c1 [[1, 2, 3, 0], [2, 1, 0, 3]] [aw_l0, aw_l1] 0 _ HC1.out HL1.out aw_chain).mono ?_); rintro e5 wC ⟨v5, rfl, hr5, hb⟩; obtain ⟨gc, cc, e5, _, _, _, _⟩ := Kd.R_form hr5 (by decide); subst e5; obtain ⟨hk3, Ao, co, hk4, hlo, hCo⟩ := aw_cells hr5; have HK4 := Aside0.mk hk4; have HLo := Aside0.mk hlo; have HCo := Aside0.mk hCo; clear hk4 hlo hCo; have HB := Aside0.mk (below_step (w := w) HB.out hb); have HR := Aside0.mk (below_step (w := wR.alloc (.cells #[.int .i64 4, .slice A3 2 c3] 24)) HR.out hb); have hg0 := cell_move (w' := wC) (show (wR.alloc (.cells #[.int .i64 4, .slice A3 2 c3] 24)).cell? ⟨wR.heap.size, 0, none⟩ = some (.int .i64 4) from by rw [World.cell?_alloc_at _ _ _ _ rfl]; rfl) (fun hlt => HR.out.block _ hlt); have hg1 := cell_move (w' := wC) (show (wR.alloc (.cells #[.int .i64 4, .slice A3 2 c3] 24)).cell? ⟨wR.heap.size, 1, none⟩ = some (.slice A3 2 c3) from by rw [World.cell?_alloc_at _ _ _ _ rfl]; rfl) (fun hlt => HR.out.block _ hlt); clear hr5 hb)
    | (go_at_call 13; (refine (Go.Proofs.YtmbldnoepjmhhaaGreat.PRf.galoisref23_Equal.calls 60 4 A3 c3 [[0, 3, 2, 1], [1, 0, 3, 2]] 4 (some ⟨wC.heap.size + 1 + 1, 0, none⟩) 2 [[0, 3, 2, 1], [1, 0, 3, 2]] true _ (Kd.C_below HC3.out (below_step (w := wR) (below_alloc (Below.refl _ _) _) (by repeat (first | exact HR.out | apply below_alloc)))) HL3.out (lit_two wC [0, 3, 2, 1] [1, 0, 3, 2] (by decide) (by decide) _ _ rfl rfl) (by decide) aw_equal).mono ?_); rintro e6 w6 ⟨rfl, hb⟩; have HB := Aside0.mk (below_step (w := w) (by repeat (first | exact HB.out | apply below_alloc)) hb); have HB6 := Aside0.mk (below_step (w := wC) (by repeat (first | exact Below.refl _ _ | apply below_alloc)) hb); have hk6 := cell_move (w' := w6) HK4.out (fun hlt => HB6.out.block _ hlt); clear hb)
    | (go_at_call 17; (refine (Go.Proofs.YtmbldnoepjmhhaaGreat.PRf.galoisref22_Same.calls 60 Ao co [1, 3] (some ⟨w6.heap.size, 0, none⟩) 2 [1, 3] true _ (Kd.C_below HCo.out (below_alloc HB6.out _)) HLo.out (Kd.R_reads' (lit_ints w6 0 [1, 3] (Nat.zero_le _) (by decide))).2.2 (by decide) aw_same).mono ?_); rintro e7 w7 ⟨rfl, hd⟩; have hq := hd.out; obtain ⟨q, rfl⟩ := hq; have HB := Aside0.mk (pw_below_drewN (below_alloc HB.out (.cells #[.int .i64 1, .int .i64 3] 3)) q); clear hd))
  go_ret
  exact ⟨rfl, HB.out⟩
end Go.Proofs.YtmbldnoepjmhhaaGreat.Bs
end
section
/- What the reference's Greedy comes to. -/
namespace Go.Proofs.YtmbldnoepjmhhaaGreat.QGreed
open Go.RowKit Go.Proofs.YtmbldnoepjmhhaaGreatW.PrintWords Go.Proofs.YtmbldnoepjmhhaaGreat.Plain Go.Proofs.YtmbldnoepjmhhaaGreat.Pms Go.Proofs.YtmbldnoepjmhhaaGreat.QRf Go.Proofs.YtmbldnoepjmhhaaGreat.QCl Go.Proofs.YtmbldnoepjmhhaaGreat.Bs
variable {n : Nat}
theorem mapl_getG (L : List (Pm n)) (i : Nat) (h : i < L.length) : PGr.rd_L1 (L.map Pm.l) (i : Int) = L[i].l := by
  unfold PGr.rd_L1
  rw [Int.toNat_natCast, List.getD_eq_getElem?_getD, List.getElem?_map, List.getElem?_eq_getElem h]
  rfl
theorem greedy_l (hn : n ≤ 20) {T E : List (Pm n)} (hE : E.Pairwise Lt) (hG : ∀ p, p ∈ E ↔ Gen T p) (hl : E.length ≤ 240) (F : List (Pm n)) (hFE : ∀ x ∈ F, x ∈ E) (hFl : F.length ≤ 100000) : ∀ (d i : Nat) (H out : List (Pm n)), F.length - i = d → i ≤ F.length → out.length ≤ i → (∀ x ∈ out, x ∈ E) → H.Pairwise Lt → (∀ p, p ∈ H ↔ Gen out p) →
    Ev (fun k => PGr.galoisref23_Greedy.l0 k (n : Int) (F.map Pm.l) (H.map Pm.l) (i : Int) (n : Int) (out.map Pm.l)) ((n : Int), (greedy (F.drop i) out).map Pm.l) := by
  intro d
  induction d with
  | zero =>
    intro i H out hd hi ho hoE hH hHG
    rw [List.drop_eq_nil_of_le (by omega), greedy]
    refine Ev.step (f := fun _ => some ((n : Int), out.map Pm.l)) (fun k => ?_) (Ev.now _)
    simp only [PGr.galoisref23_Greedy.l0]
    rw [if_neg (by rw [List.length_map]; omega)]
  | succ d ih =>
    intro i H out hd hi ho hoE hH hHG
    have hlt : i < F.length := by omega
    have e : F.drop i = F[i] :: F.drop (i + 1) := List.drop_eq_getElem_cons hlt
    have hsub : ∀ (S : List (Pm n)), (∀ x ∈ S, x ∈ E) → ∀ (K : List (Pm n)), K.Pairwise Lt → (∀ p, p ∈ K ↔ Gen S p) → K.length ≤ 240 := fun S hS K hK hKG => Nat.le_trans (List.Nodup.length_le_of_subset (sorted_nodup hK) (fun x hx => (hG x).2 (Gen.mono (fun s hs => (hG s).1 (hS s hs)) ((hKG x).1 hx)))) hl
    have hHl := hsub out hoE H hH hHG
    have hhas := hasP hn hH (by omega) F[i]
    have hstep : ∀ k, PGr.galoisref23_Greedy.l0 (k + 1) (n : Int) (F.map Pm.l) (H.map Pm.l) (i : Int) (n : Int) (out.map Pm.l) = (PRf.galoisref23_Has.f k (H.map Pm.l) F[i].l).bind fun t => if t = true then PGr.galoisref23_Greedy.l0 k (n : Int) (F.map Pm.l) (H.map Pm.l) ((i + 1 : Nat) : Int) (n : Int) (out.map Pm.l) else (Bs.galoisref23_Close.f k (n : Int) ((out ++ [F[i]]).map Pm.l)).bind fun bt => PGr.galoisref23_Greedy.l0 k (n : Int) (F.map Pm.l) bt.1 ((i + 1 : Nat) : Int) (n : Int) ((out ++ [F[i]]).map Pm.l) := by
      intro k
      simp only [PGr.galoisref23_Greedy.l0]
      rw [if_pos (by rw [List.length_map]; omega), if_pos (by omega), mapl_getG F i hlt, wrap_nat (by omega)]
      congr 1
      funext t
      by_cases ht : t = true
      · rw [if_pos ht, if_pos ht]
      · rw [if_neg ht, if_neg ht, if_pos (by rw [List.length_map]; omega), Option.bind_some, List.map_append]
        rfl
    refine Ev.step hstep (Ev.bind hhas ?_)
    by_cases hm : F[i] ∈ H
    · have hg := (hHG _).1 hm
      rw [e, greedy, if_pos hg]
      simp only [decide_eq_true hm, if_true]
      exact ih (i + 1) H out (by omega) (by omega) (by omega) hoE hH hHG
    · have hg : ¬ Gen out F[i] := fun h => hm ((hHG _).2 h)
      rw [e, greedy, if_neg hg]
      simp only [decide_eq_false hm, Bool.false_eq_true, if_false]
      have hoE2 : ∀ x ∈ out ++ [F[i]], x ∈ E := fun x hx => (List.mem_append.1 hx).elim (hoE x) (fun h => by rw [List.mem_singleton] at h; subst h; exact hFE _ (List.getElem_mem hlt))
      obtain ⟨K, hK, hKG⟩ := all_exists hn (out ++ [F[i]])
      have hKl := hsub _ hoE2 K hK hKG
      refine Ev.bind (closeP hn hK hKG) ?_
      unfold closeR
      simp only [if_pos hKl]
      exact ih (i + 1) K (out ++ [F[i]]) (by omega) (by omega) (by rw [List.length_append, List.length_singleton]; omega) hoE2 hK hKG
theorem greedyP (hn : n ≤ 20) {T E : List (Pm n)} (hE : E.Pairwise Lt) (hG : ∀ p, p ∈ E ↔ Gen T p) (hl : E.length ≤ 240) : Ev (fun k => PGr.galoisref23_Greedy.f k (n : Int) (E.map Pm.l)) ((n : Int), (greedy E []).map Pm.l) := by
  refine Ev.congr (f := fun k => (PRf.galoisref22_Identity.f k (n : Int)).bind fun t => PGr.galoisref23_Greedy.l0 k (n : Int) (E.map Pm.l) [t] ((0 : Nat) : Int) (n : Int) (([] : List (Pm n)).map Pm.l)) (fun k => rfl) ?_
  refine Ev.bind (identP hn) ?_
  have := greedy_l hn hE hG hl E (fun x h => h) (by omega) E.length 0 [1] [] rfl (Nat.zero_le _) (Nat.zero_le _) (fun x h => by cases h) (List.pairwise_singleton _ _) (fun p => by rw [List.mem_singleton]; exact ⟨fun h => h ▸ Gen.one _, Gen.nil⟩)
  rwa [List.drop_zero] at this
theorem samePermsP (hn : n ≤ 20) (A B : List (Pm n)) (hl : A.length = B.length) (hs : A.length < 100000) : Ev (fun k => PRf.galoisref22_SamePerms.f k (A.map Pm.l) (B.map Pm.l)) (decide (A = B)) := by
  have key : ∀ d i, i + d = A.length → Ev (fun k => PRf.galoisref22_SamePerms.l0 k (A.map Pm.l) (B.map Pm.l) (i : Int)) (decide (A.drop i = B.drop i)) := by
    intro d
    induction d with
    | zero =>
      intro i hi
      rw [List.drop_eq_nil_of_le (by omega), List.drop_eq_nil_of_le (by omega)]
      refine Ev.step (f := fun _ => some true) (fun k => ?_) (Ev.now _)
      simp only [PRf.galoisref22_SamePerms.l0, List.length_map]
      rw [if_neg (by omega)]
    | succ d ih =>
      intro i hi
      have ha : i < A.length := by omega
      have hb : i < B.length := by omega
      rw [List.drop_eq_getElem_cons ha, List.drop_eq_getElem_cons hb]
      refine Ev.step (f := fun k => (PRf.galoisref22_Same.f k A[i].l B[i].l).bind fun t => if t = true then PRf.galoisref22_SamePerms.l0 k (A.map Pm.l) (B.map Pm.l) ((i + 1 : Nat) : Int) else some false) (fun k => ?_) ?_
      · simp only [PRf.galoisref22_SamePerms.l0, List.length_map]
        rw [if_pos (by omega), if_pos (by omega), if_pos (by omega), mapl_get A i ha, mapl_get B i hb, wrap_nat (by omega)]
      · refine Ev.bind (sameP _ _ hn) ?_
        by_cases e : A[i] = B[i]
        · simp only [decide_eq_true e, if_true]
          rw [show decide (A[i] :: A.drop (i + 1) = B[i] :: B.drop (i + 1)) = decide (A.drop (i + 1) = B.drop (i + 1)) by rw [e]; simp only [List.cons.injEq, true_and]]
          exact ih (i + 1) (by omega)
        · simp only [decide_eq_false e, Bool.false_eq_true, if_false]
          rw [show decide (A[i] :: A.drop (i + 1) = B[i] :: B.drop (i + 1)) = false by simp only [List.cons.injEq, e, false_and, decide_false]]
          exact Ev.now _
  have := key A.length 0 (by omega)
  rw [List.drop_zero, List.drop_zero] at this
  refine Ev.congr (fun k => ?_) this
  unfold PRf.galoisref22_SamePerms.f
  rw [List.length_map, List.length_map, if_pos (by omega)]
  rfl
theorem equalP (hn : n ≤ 20) (a : Int) (A : List (Pm n)) (hs : A.length < 100000) : Ev (fun k => PRf.galoisref23_Equal.f k a (A.map Pm.l) a (A.map Pm.l)) true := by
  refine Ev.congr (f := fun k => (PRf.galoisref22_SamePerms.f k (A.map Pm.l) (A.map Pm.l)).bind fun t => some t) (fun k => by unfold PRf.galoisref23_Equal.f; rw [if_pos rfl]) ?_
  have h := samePermsP hn A A rfl hs
  rw [show decide (A = A) = true from decide_eq_true rfl] at h
  exact Ev.bind h (Ev.now _)
end Go.Proofs.YtmbldnoepjmhhaaGreat.QGreed
end
section
/- What the law package's own functions come to: a group that is too large for the reference, or all its elements. -/
namespace Go.Proofs.YtmbldnoepjmhhaaGreat.QPg
open Go.RowKit Go.Proofs.YtmbldnoepjmhhaaGreatW.PrintWords Go.Proofs.YtmbldnoepjmhhaaGreat.Plain Go.Proofs.YtmbldnoepjmhhaaGreat.Pms Go.Proofs.YtmbldnoepjmhhaaGreat.QRf Go.Proofs.YtmbldnoepjmhhaaGreat.QCl Go.Proofs.YtmbldnoepjmhhaaGreat.Bs
variable {n : Nat}
theorem elementsP (hn : n ≤ 20) {S E : List (Pm n)} (hE : E.Pairwise Lt) (hG : ∀ p, p ∈ E ↔ Gen S p) : Ev (fun k => PPg.galoisref23_Elements.f k (n : Int) (S.map Pm.l)) (closeR E) := by
  refine Ev.congr (f := fun k => (Bs.galoisref23_Close.f k (n : Int) (S.map Pm.l)).bind fun t => some (t.1, t.2)) (fun k => rfl) ?_
  exact Ev.bind (closeP hn hE hG) (Ev.now _)
structure Fit (a : Int) (L : List (List Int)) (n : Nat) (S E : List (Pm n)) : Prop where
  deg : a = (n : Int)
  hn : n ≤ 20
  gens : S.map Pm.l = L
  len : S.length ≤ 32
  srt : E.Pairwise Lt
  all : ∀ p, p ∈ E ↔ Gen S p
  few : E.length ≤ 240
theorem large_ev (a : Int) (L : List (List Int)) : ∃ b, Ev (fun k => PPg.galoislaw23_large.f k a L) b ∧ (b = false → chkG a L = 0 → ∃ (n : Nat) (S E : List (Pm n)), Fit a L n S E) := by
  obtain ⟨fb, hf⟩ := galoisref23_Few.ev a L
  have hc := galoisref23_Check.ev a L
  cases fb with
  | false =>
    refine ⟨true, ?_, fun h => by cases h⟩
    refine Ev.congr (f := fun k => (PRf.galoisref23_Few.f k a L).bind fun t => if t = true then ((PRf.galoisref23_Check.f k a L).bind fun t2 => if t2 = 0 then ((PPg.galoisref23_Small.f k a L).bind fun t3 => some (!t3)) else some false) else some true) (fun k => rfl) ?_
    refine Ev.bind hf ?_
    simp only [Bool.false_eq_true, if_false]
    exact Ev.now _
  | true =>
    by_cases h0 : chkG a L = 0
    · obtain ⟨n, S, rfl, hn, rfl, hL⟩ := chkG_to h0
      rw [List.length_map] at hL
      obtain ⟨E, hE, hG⟩ := all_exists hn S
      have hs : Ev (fun k => PPg.galoisref23_Small.f k (n : Int) (S.map Pm.l)) (decide (E.length ≤ 240)) := by
        refine Ev.congr (f := fun k => (PRf.galoisref23_Few.f k (n : Int) (S.map Pm.l)).bind fun t => if t = true then ((PRf.galoisref23_Check.f k (n : Int) (S.map Pm.l)).bind fun t2 => if t2 = 0 then ((PPg.galoisref23_Elements.f k (n : Int) (S.map Pm.l)).bind fun t3 => some t3.2) else some false) else some false) (fun k => rfl) ?_
        refine Ev.bind hf ?_
        simp only [if_true]
        refine Ev.bind hc ?_
        simp only [if_pos h0]
        refine Ev.bind (elementsP hn hE hG) ?_
        have e : (closeR E).2 = decide (E.length ≤ 240) := by
          unfold closeR
          by_cases h : E.length ≤ 240
          · rw [if_pos h, decide_eq_true h]
          · rw [if_neg h, decide_eq_false h]
        rw [e]; exact Ev.now _
      refine ⟨!decide (E.length ≤ 240), ?_, fun h _ => ⟨n, S, E, rfl, hn, rfl, hL, hE, hG, by simpa using h⟩⟩
      refine Ev.congr (f := fun k => (PRf.galoisref23_Few.f k (n : Int) (S.map Pm.l)).bind fun t => if t = true then ((PRf.galoisref23_Check.f k (n : Int) (S.map Pm.l)).bind fun t2 => if t2 = 0 then ((PPg.galoisref23_Small.f k (n : Int) (S.map Pm.l)).bind fun t3 => some (!t3)) else some false) else some true) (fun k => rfl) ?_
      refine Ev.bind hf ?_
      simp only [if_true]
      refine Ev.bind hc ?_
      simp only [if_pos h0]
      exact Ev.bind hs (Ev.now _)
    · refine ⟨false, ?_, fun _ h => absurd h h0⟩
      refine Ev.congr (f := fun k => (PRf.galoisref23_Few.f k a L).bind fun t => if t = true then ((PRf.galoisref23_Check.f k a L).bind fun t2 => if t2 = 0 then ((PPg.galoisref23_Small.f k a L).bind fun t3 => some (!t3)) else some false) else some true) (fun k => rfl) ?_
      refine Ev.bind hf ?_
      simp only [if_true]
      refine Ev.bind hc ?_
      simp only [if_neg h0]
      exact Ev.now _
end Go.Proofs.YtmbldnoepjmhhaaGreat.QPg
end
