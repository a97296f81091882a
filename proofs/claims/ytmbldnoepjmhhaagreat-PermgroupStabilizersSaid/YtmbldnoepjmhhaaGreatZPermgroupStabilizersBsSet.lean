/- The walk of permgroup.SetStabilizer. -/
import Derived.Test.YtmbldnoepjmhhaaGreatZPermgroupStabilizersMg2
import Derived.Test.YtmbldnoepjmhhaaGreatZPermgroupStabilizersMg1
import Derived.Test.YtmbldnoepjmhhaaGreatZPermgroupStabilizersMg4
namespace Go.Proofs.YtmbldnoepjmhhaaGreat.Bs
set_option linter.unusedVariables false
set_option linter.unusedSimpArgs false
open Go.RowKit Go.Proofs.YtmbldnoepjmhhaaGreatW.PrintWords Go.Proofs.YtmbldnoepjmhhaaGreatW.PrintLast Go.Proofs.YtmbldnoepjmhhaaGreatW.PrintMore Go.Proofs.YtmbldnoepjmhhaaGreat.Plain Go.Proofs.YtmbldnoepjmhhaaGreat.PBs
set_option maxHeartbeats 4000000 in
set_option maxRecDepth 100000 in
theorem keepsClo {w0 : World} {pb : Nat} {all : List (List Int)} {l1 : List Int} {B : Option Addr} {cb : Nat} (hcell : w0.cell? ⟨pb, 0, none⟩ = some (.slice B l1.length cb)) (hl : Kd.C (Kd.int .i64) w0 B l1.length l1) (hll : l1.length ≤ 100000) (hr : ∀ p ∈ all, ∀ i ∈ l1, 0 ≤ i ∧ i < (p.length : Int)) : CloSet w0 pb all (fun p => keepsV p l1) := by
  intro W v p hB hp hv
  obtain ⟨A, c, rfl, hle, hC⟩ := PermAt.of_R hv
  have hc := cell_move (w' := W) hcell (fun hlt => hB.block _ hlt)
  have HC := Aside0.mk hC
  have HL := Aside0.mk (Kd.C_below hl hB)
  have HLL := Aside0.mk hll
  have HR := Aside0.mk (hr p hp)
  clear hC hv hl hr hp hcell hB hle hll
  go_enter Tryz.func71, Tryz.ntmps71
  go_wp2_with (go_at_call 72; (refine (keeps_any HC.out HL.out HLL.out HR.out).mono ?_); rintro e w1 ⟨rfl, hb1⟩; have HB1 := Aside0.mk hb1; clear hb1)
  go_ret
  exact ⟨rfl, HB1.out⟩
def permgroup_SetStabilizer.f (k : Nat) (a0_0 : Int) (l0_1 : List (List Int)) (l1 : List Int) : Option (Int × List (List Int) × Int) := (permgroup_on.f k a0_0 l0_1 l1).bind fun e => if e = 0 then (if 0 ≤ a0_0 ∧ a0_0 ≤ 20 ∧ l1.length ≤ 1000 ∧ ∀ i ∈ l1, 0 ≤ i ∧ i < a0_0 then (permgroup_elements.f a0_0 l0_1).bind fun t => if t.2 = 0 then (if 0 < t.1.length ∧ t.1.length ≤ 100000 ∧ ∀ p ∈ t.1, (p.length : Int) = a0_0 then (reducedM a0_0.toNat (t.1.filter fun p => keepsV p l1)).bind fun r => some (a0_0, r, 0) else none) else some (0, [], t.2) else none) else some (0, [], e)
theorem permgroup_SetStabilizer.mono : ∀ a0_0 l0_1 l1 k, LeO (permgroup_SetStabilizer.f k a0_0 l0_1 l1) (permgroup_SetStabilizer.f (k + 1) a0_0 l0_1 l1) := fun a0_0 l0_1 l1 k => LeO.bind (permgroup_on.mono _ _ _ _) (fun _ => LeO.refl _)
set_option maxHeartbeats 8000000 in
set_option maxRecDepth 100000 in
theorem permgroup_SetStabilizer.calls (k : Nat) (a0_0 : Int) (A0_1 : Option Addr) (c0_1 : Nat) (l0_1 : List (List Int)) (A1 : Option Addr) (c1 : Nat) (l1 : List Int) (r1 : Int) (r2 : List (List Int)) (r3 : Int) (w : World) (hr0_1 : Kd.C (Kd.slice 3 (Kd.int .i64)) w A0_1 l0_1.length l0_1) (hc0_1 : l0_1.length ≤ c0_1) (hr1 : Kd.C (Kd.int .i64) w A1 l1.length l1) (hc1 : l1.length ≤ c1) (h : permgroup_SetStabilizer.f k a0_0 l0_1 l1 = some (r1, r2, r3)) :
    Calls Tryz.prog 22 #[.agg #[.int .i64 a0_0, .slice A0_1 l0_1.length c0_1], .slice A1 l1.length c1] w fun e w' => ∃ v1_ : Value, e = .returned (.tuple #[.agg #[.int .i64 r1, v1_], .int .i64 r3]) ∧ Kd.S (Kd.slice 3 (Kd.int .i64)) 39 w' w.heap.size (fun _ => True) v1_ r2 ∧ Below w.heap.size w w' := by
  have hu := Tryz.underlying24
  have hmf : ∀ (fn : Fn) (first cap : Array Value) (w : World), (Instr.makeFunc fn first cap).run Tryz.prog w = .ok (.func fn first cap) w := fun _ _ _ _ => rfl
  have HC := Aside0.mk hc0_1
  have HC1 := Aside0.mk hc1
  have HB0 : Aside0 (Below w.heap.size w (((w.alloc (.cells #[.int .i64 a0_0, .slice A0_1 l0_1.length c0_1] 24)).alloc (.cells #[.slice A1 l1.length c1] 38)).alloc (.cells #[.int .i64 0, .slice none 0 0] 24))) := ⟨below_alloc (below_alloc (below_alloc (Below.refl _ _) _) _) _⟩
  have HG := Aside0.mk (Kd.C_below hr0_1 HB0.out)
  have HP := Aside0.mk (Kd.C_below hr1 HB0.out)
  have hx0 : (((w.alloc (.cells #[.int .i64 a0_0, .slice A0_1 l0_1.length c0_1] 24)).alloc (.cells #[.slice A1 l1.length c1] 38)).alloc (.cells #[.int .i64 0, .slice none 0 0] 24)).cell? ⟨w.heap.size, 0, none⟩ = some (.int .i64 a0_0) := by rw [World.cell?_alloc_past _ _ _ (by simp; omega), World.cell?_alloc_past _ _ _ (by simp), World.cell?_alloc_at _ _ _ _ rfl]; rfl
  have hx1 : (((w.alloc (.cells #[.int .i64 a0_0, .slice A0_1 l0_1.length c0_1] 24)).alloc (.cells #[.slice A1 l1.length c1] 38)).alloc (.cells #[.int .i64 0, .slice none 0 0] 24)).cell? ⟨w.heap.size, 1, none⟩ = some (.slice A0_1 l0_1.length c0_1) := by rw [World.cell?_alloc_past _ _ _ (by simp; omega), World.cell?_alloc_past _ _ _ (by simp), World.cell?_alloc_at _ _ _ _ rfl]; rfl
  have hp0 : (((w.alloc (.cells #[.int .i64 a0_0, .slice A0_1 l0_1.length c0_1] 24)).alloc (.cells #[.slice A1 l1.length c1] 38)).alloc (.cells #[.int .i64 0, .slice none 0 0] 24)).cell? ⟨w.heap.size + 1, 0, none⟩ = some (.slice A1 l1.length c1) := by rw [World.cell?_alloc_past _ _ _ (by simp), World.cell?_alloc_at _ _ _ _ (by simp)]; rfl
  have hz : (((w.alloc (.cells #[.int .i64 a0_0, .slice A0_1 l0_1.length c0_1] 24)).alloc (.cells #[.slice A1 l1.length c1] 38)).alloc (.cells #[.int .i64 0, .slice none 0 0] 24)).heap[w.heap.size + 1 + 1]? = some (.cells #[.int .i64 0, .slice none 0 0] 24 (0, 0)) := by have := blk_new ((w.alloc (.cells #[.int .i64 a0_0, .slice A0_1 l0_1.length c0_1] 24)).alloc (.cells #[.slice A1 l1.length c1] 38)) (.cells #[.int .i64 0, .slice none 0 0] 24); simpa using this
  have hsz : w.heap.size + 1 + 1 < (((w.alloc (.cells #[.int .i64 a0_0, .slice A0_1 l0_1.length c0_1] 24)).alloc (.cells #[.slice A1 l1.length c1] 38)).alloc (.cells #[.int .i64 0, .slice none 0 0] 24)).heap.size := by simp
  have hs3 : (((w.alloc (.cells #[.int .i64 a0_0, .slice A0_1 l0_1.length c0_1] 24)).alloc (.cells #[.slice A1 l1.length c1] 38)).alloc (.cells #[.int .i64 0, .slice none 0 0] 24)).heap.size = w.heap.size + 1 + 1 + 1 := by simp
  have HX0 := Aside0.mk hx0
  have HX1 := Aside0.mk hx1
  have HP0 := Aside0.mk hp0
  have HZ := Aside0.mk hz
  have HSZ := Aside0.mk hsz
  have HS3 := Aside0.mk hs3
  clear hx0 hx1 hz hsz hp0 hs3
  unfold permgroup_SetStabilizer.f at h
  replace h := Option.bind_eq_some_iff.1 h
  obtain ⟨e, h1, h⟩ := h
  have A1' := Aside0.mk h1
  clear hr0_1 hc0_1 h1 hr1 hc1
  by_cases e0 : e = 0
  · rw [if_pos e0] at h
    have hr : 0 ≤ a0_0 ∧ a0_0 ≤ 20 ∧ l1.length ≤ 1000 ∧ ∀ i ∈ l1, 0 ≤ i ∧ i < a0_0 := by
      by_cases hr : 0 ≤ a0_0 ∧ a0_0 ≤ 20 ∧ l1.length ≤ 1000 ∧ ∀ i ∈ l1, 0 ≤ i ∧ i < a0_0
      · exact hr
      · rw [if_neg hr] at h; cases h
    rw [if_pos hr] at h
    obtain ⟨n, rfl⟩ : ∃ n : Nat, a0_0 = (n : Int) := ⟨a0_0.toNat, by omega⟩
    rw [Int.toNat_natCast] at h
    replace h := Option.bind_eq_some_iff.1 h
    obtain ⟨⟨all, ee⟩, h2, h⟩ := h
    have A2 := Aside0.mk h2
    have HN : Aside0 (n ≤ 20) := ⟨by omega⟩
    have HL := Aside0.mk hr
    subst e0
    clear h2 hr
    by_cases e9 : ee = 0
    · subst e9
      rw [if_pos rfl] at h
      have hr : 0 < all.length ∧ all.length ≤ 100000 ∧ ∀ p ∈ all, (p.length : Int) = (n : Int) := by
        by_cases hr : 0 < all.length ∧ all.length ≤ 100000 ∧ ∀ p ∈ all, (p.length : Int) = (n : Int)
        · exact hr
        · have h' := h
          simp only at h'
          rw [if_neg hr] at h'; cases h'
      have HALL := Aside0.mk hr
      have h' := h
      simp only at h'
      rw [if_pos hr] at h'
      replace h' := Option.bind_eq_some_iff.1 h'
      obtain ⟨r, h3, h4⟩ := h'
      obtain ⟨e7, h5⟩ := Prod.mk.inj (Option.some.inj h4)
      obtain ⟨e8, e9⟩ := Prod.mk.inj h5
      subst e7
      subst e8
      subst e9
      have A3 := Aside0.mk h3
      clear h h3 h4 h5 hr
      go_enter Tryz.func22, Tryz.ntmps22
      go_wp2_with (first
        | (go_at_call 68; (refine (permgroup_elements.calls (n : Int) A0_1 c0_1 l0_1 all 0 _ HG1.out HC.out A2.out).mono ?_); rintro e w2 ⟨v2, rfl, hs2, hb2⟩; have HS2 := Aside0.mk (Kd.S_lower hs2 HB1.out.size); have HB2 := Aside0.mk (below_step HB1.out hb2); have hcx2 := cell_move (w' := w2) hcx (fun hlt => hb2.block _ hlt); have hcy2 := cell_move (w' := w2) hcy (fun hlt => hb2.block _ hlt); obtain ⟨bl, cp, e2, _, _, _, _⟩ := Kd.R_form (Kd.S_R HS2.out) HALL.out.1; subst e2; clear hs2 hb2)
        | (go_at_call 65; (refine (permgroup_on.calls k (n : Int) A0_1 c0_1 l0_1 A1 c1 l1 0 _ HG.out HC.out HP.out HC1.out A1'.out).mono ?_); rintro e w1 ⟨rfl, hb1⟩; have HB1 := Aside0.mk (below_step (w := (((w.alloc (.cells #[.int .i64 (n : Int), .slice A0_1 l0_1.length c0_1] 24)).alloc (.cells #[.slice A1 l1.length c1] 38)).alloc (.cells #[.int .i64 0, .slice none 0 0] 24))) (Below.refl _ _) hb1); have HG1 := Aside0.mk (Kd.C_below HG.out hb1); have hcx := cell_move (w' := w1) HX0.out (fun hlt => hb1.block _ hlt); have hcy := cell_move (w' := w1) HX1.out (fun hlt => hb1.block _ hlt); have hcp := cell_move (w' := w1) HP0.out (fun hlt => hb1.block _ hlt); clear hb1))
      obtain ⟨fD, svs, hD⟩ := DfAt.of_S (w0 := (((w.alloc (.cells #[.int .i64 (n : Int), .slice A0_1 l0_1.length c0_1] 24)).alloc (.cells #[.slice A1 l1.length c1] 38)).alloc (.cells #[.int .i64 0, .slice none 0 0] 24))) (all := all) (blk := bl) (cap := cp) HB2.out HS2.out
      have HD := Aside0.mk hD
      have HCLO : Aside0 (CloSet (((w.alloc (.cells #[.int .i64 (n : Int), .slice A0_1 l0_1.length c0_1] 24)).alloc (.cells #[.slice A1 l1.length c1] 38)).alloc (.cells #[.int .i64 0, .slice none 0 0] 24)) (w.heap.size + 1) all (fun p => keepsV p l1)) := ⟨keepsClo HP0.out HP.out (by have := HL.out; omega) (fun p hp i hi => by have h1 := HALL.out.2.2 p hp; have h2 := HL.out.2.2.2 i hi; omega)⟩
      clear hD
      go_region_with (first
        | (go_at_call 69; (refine (reducedG_any n HN.out (all.filter fun p => keepsV p l1) r A3_ c3_ (((w.alloc (.cells #[.int .i64 (n : Int), .slice A0_1 l0_1.length c0_1] 24)).alloc (.cells #[.slice A1 l1.length c1] 38)).alloc (.cells #[.int .i64 0, .slice none 0 0] 24)).heap.size _ (Kd.S_below HS3x.out (by repeat (first | (with_reducible first | exact Below.refl _ _ | apply below_alloc | apply pw_below_drewN | apply below_drew1) | exact Below.refl _ _))) (below_step HB3.out (by repeat (first | (with_reducible first | exact Below.refl _ _ | apply below_alloc | apply pw_below_drewN | apply below_drew1) | exact Below.refl _ _))).size A3.out).mono ?_); rintro e w4 ⟨v4, rfl, hs4, hb4⟩; have HB34 := below_step (w := w3) (by repeat (first | (with_reducible first | exact Below.refl _ _ | apply below_alloc | apply pw_below_drewN | apply below_drew1) | exact Below.refl _ _)) hb4; have HS4 := Aside0.mk hs4; have HB4 := Aside0.mk (below_step HB3.out HB34); obtain ⟨A4, c4, e4⟩ := Kd.R_slice (Kd.S_R hs4); subst e4; have hk := Aside0.mk ((HB4.out.block _ HSZ.out).trans HZ.out); have hc0 := (blk_cell hk.out 0); have hc1 := (blk_cell hk.out 1); have hf0 := (blk_frozen hk.out 0); have hf1 := (blk_frozen hk.out 1); clear hs4 hb4)
        | (go_at_call 70; (refine (deleteSet_any HCLO.out (by have := HALL.out; omega) rfl (HD.out.below (by repeat (first | (with_reducible first | exact Below.refl _ _ | apply below_alloc | apply pw_below_drewN | apply below_drew1) | exact Below.refl _ _)))).mono ?_); rintro e w3 ⟨v3, rfl, hs3, hb3⟩; have HS3x := Aside0.mk hs3; have HB3 := Aside0.mk hb3; have hcx3 := cell_move (w' := w3) HX0.out (fun hlt => hb3.block _ hlt); have hcp3 := cell_move (w' := w3) HP0.out (fun hlt => hb3.block _ hlt); obtain ⟨A3_, c3_, e3_⟩ := Kd.R_slice (Kd.S_R hs3); subst e3_; clear hs3 hb3))
      all_goals
        go_wp2_with fail
        have hk2 := blk_put hk.out 0 (.int .i64 (n : Int)) rfl
        have hk3 := blk_put hk2 1 (.slice A4 r.length c4) rfl
        have hty : ∀ q, q ∈ 39 :: (Kd.slice 3 (Kd.int .i64)).E → q ≠ 24 := by decide
        have hS2 := Kd.S_set HS4.out hk.out hty 0 (.int .i64 (n : Int))
        have hS3 := Kd.S_set hS2 hk2 hty 1 (.slice A4 r.length c4)
        refine bodyPost_ret (results_ct rfl _ _ (w.heap.size + 1 + 1) 24 #[.int .i64 (n : Int), .slice A4 r.length c4] (0, 0) _ rfl hk3 Tryz.underlying24 rfl (by kernel_rfl)) rfl ?_
        exact ⟨_, rfl, Kd.S_lower hS3 (by simp; omega), ((below_step HB0.out HB4.out).setCell (by show w.heap.size ≤ w.heap.size + 1 + 1; omega) _).setCell (by show w.heap.size ≤ w.heap.size + 1 + 1; omega) _⟩
    · have h' := h
      simp only at h'
      rw [if_neg e9] at h'
      obtain ⟨e7, h5⟩ := Prod.mk.inj (Option.some.inj h')
      obtain ⟨e8, e10⟩ := Prod.mk.inj h5
      subst e7
      subst e8
      subst e10
      have e1 : (ee == 0) = false := beq_eq_false_iff_ne.mpr e9
      have e2 : (ee != 0) = true := bne_iff_ne.mpr e9
      clear h e9 h5 h'
      go_enter Tryz.func22, Tryz.ntmps22
      go_wp2_with (first
        | (go_at_call 68; (refine (permgroup_elements.calls (n : Int) A0_1 c0_1 l0_1 all ee _ HG1.out HC.out A2.out).mono ?_); rintro e w2 ⟨v2, rfl, hs2, hb2⟩; have HB2 := Aside0.mk (below_step HB1.out hb2); have hk := Aside0.mk ((HB2.out.block _ HSZ.out).trans HZ.out); have hc0 := (blk_cell hk.out 0); have hc1 := (blk_cell hk.out 1); have hf0 := (blk_frozen hk.out 0); have hf1 := (blk_frozen hk.out 1); obtain ⟨A2_, c2_, e2_⟩ := Kd.R_slice (Kd.S_R hs2); subst e2_; clear hs2 hb2)
        | (go_at_call 65; (refine (permgroup_on.calls k (n : Int) A0_1 c0_1 l0_1 A1 c1 l1 0 _ HG.out HC.out HP.out HC1.out A1'.out).mono ?_); rintro e w1 ⟨rfl, hb1⟩; have HB1 := Aside0.mk (below_step (w := (((w.alloc (.cells #[.int .i64 (n : Int), .slice A0_1 l0_1.length c0_1] 24)).alloc (.cells #[.slice A1 l1.length c1] 38)).alloc (.cells #[.int .i64 0, .slice none 0 0] 24))) (Below.refl _ _) hb1); have HG1 := Aside0.mk (Kd.C_below HG.out hb1); have hcx := cell_move (w' := w1) HX0.out (fun hlt => hb1.block _ hlt); have hcy := cell_move (w' := w1) HX1.out (fun hlt => hb1.block _ hlt); clear hb1))
      have hk2 := blk_put hk.out 0 (.int .i64 0) rfl
      have hk3 := blk_put hk2 1 (.slice none 0 0) rfl
      refine bodyPost_ret (results_ct rfl _ _ (w.heap.size + 1 + 1) 24 #[.int .i64 0, .slice none 0 0] (0, 0) _ rfl hk3 Tryz.underlying24 rfl (by kernel_rfl)) rfl ?_
      exact ⟨_, rfl, Kd.S_nil _ _ _ _ _, ((below_step HB0.out HB2.out).setCell (by show w.heap.size ≤ w.heap.size + 1 + 1; omega) _).setCell (by show w.heap.size ≤ w.heap.size + 1 + 1; omega) _⟩
  · rw [if_neg e0] at h
    obtain ⟨rfl, h3⟩ := Prod.mk.inj (Option.some.inj h)
    obtain ⟨rfl, rfl⟩ := Prod.mk.inj h3
    have e1 : (e == 0) = false := beq_eq_false_iff_ne.mpr e0
    have e2 : (e != 0) = true := bne_iff_ne.mpr e0
    clear h e0 h3
    go_enter Tryz.func22, Tryz.ntmps22
    go_wp2_with (go_at_call 65; (refine (permgroup_on.calls k a0_0 A0_1 c0_1 l0_1 A1 c1 l1 e _ HG.out HC.out HP.out HC1.out A1'.out).mono ?_); rintro e' w1 ⟨rfl, hb1⟩; have HB1 := Aside0.mk (below_step HB0.out hb1); have hk := Aside0.mk ((hb1.block _ HSZ.out).trans HZ.out); have hc0 := (blk_cell hk.out 0); have hc1 := (blk_cell hk.out 1); have hf0 := (blk_frozen hk.out 0); have hf1 := (blk_frozen hk.out 1); clear hb1)
    have hk2 := blk_put hk.out 0 (.int .i64 0) rfl
    have hk3 := blk_put hk2 1 (.slice none 0 0) rfl
    refine bodyPost_ret (results_ct rfl _ _ (w.heap.size + 1 + 1) 24 #[.int .i64 0, .slice none 0 0] (0, 0) _ rfl hk3 Tryz.underlying24 rfl (by kernel_rfl)) rfl ?_
    exact ⟨_, rfl, Kd.S_nil _ _ _ _ _, (HB1.out.setCell (by show w.heap.size ≤ w.heap.size + 1 + 1; omega) _).setCell (by show w.heap.size ≤ w.heap.size + 1 + 1; omega) _⟩
end Go.Proofs.YtmbldnoepjmhhaaGreat.Bs
