/- CosetTables: the table and the quotient are those of the reference, or have its errors. -/
import Derived.Test.YtaaaljifclecnaaZCosetTablesPTax2
import Derived.Test.YtaaaljifclecnaaZCosetTablesMg0
import Derived.Test.YtaaaljifclecnaaZCosetTablesMg4
namespace Go.Proofs.Ytaaaljifclecnaa.Pure
open Go.RowKit Go.Proofs.Ytaaaljifclecnaa.PTa Go.Proofs.YtaaaljifclecnaaW.PrintWords Go.Proofs.YtaaaljifclecnaaW.PrintLast Go.Proofs.Ytaaaljifclecnaa.Plain
set_option linter.unusedVariables false
set_option linter.unusedSimpArgs false
open Go.Proofs.Ytaaaljifclecnaa.Pms Go.Proofs.Ytaaaljifclecnaa.QPr Go.Proofs.Ytaaaljifclecnaa.QCl
open Go.Proofs.Ytaaaljifclecnaa.QCo (Norm coreL rowsOf)
theorem ct_err (e : Int) (he : e ≠ 0) (E F : List (List Int)) : Ev (fun k => galoislaw27_CosetTables.j4 k [] e E F e false) true := by
  refine Ev.step (f := fun k => galoislaw27_CosetTables.j5 k [] e E F e) (fun k => by simp only [galoislaw27_CosetTables.j4, Bool.false_eq_true, if_false]) ?_
  refine Ev.step (f := fun _ => some true) (fun k => ?_) (Ev.now _)
  simp only [galoislaw27_CosetTables.j5, if_neg he, List.length_nil, if_true, beq_self_eq_true]
  rfl
theorem ct_err3 (e : Int) (he : e ≠ 0) (E F : List (List Int)) : Ev (fun k => galoislaw27_CosetTables.j3 k [] e E F e) true :=
  Ev.step (f := fun k => galoislaw27_CosetTables.j4 k [] e E F e false) (fun k => by simp only [galoislaw27_CosetTables.j3, if_neg he]) (ct_err e he E F)
theorem ct_err2 (e : Int) (he : e ≠ 0) (E F : List (List Int)) : Ev (fun k => galoislaw27_CosetTables.j2 k [] e E F e false) true :=
  Ev.step (f := fun k => galoislaw27_CosetTables.j3 k [] e E F e) (fun k => by simp only [galoislaw27_CosetTables.j2, Bool.false_eq_true, if_false]) (ct_err3 e he E F)
theorem ct_rows_len {n : Nat} (E F : List (Pm n)) (hl : E.length ≤ 240) : (quotT E F).length < 4611686018427387904 ∧ ∀ c ∈ quotT E F, c.length < 4611686018427387904 := by
  have h := reps_len F E
  unfold quotT rowsOf
  refine ⟨by rw [List.length_map]; omega, fun c hc => ?_⟩
  obtain ⟨p, _, rfl⟩ := List.mem_map.1 hc
  rw [List.length_map]; omega
theorem ct_j1 (a0 : Int) (L0 : List (List Int)) (a1 : Int) (L1 : List (List Int)) (hs0 : chkG a0 L0 = 0 → ∃ (n : Nat) (S E : List (Pm n)), QGp.Fit a0 L0 n S E) (hs1 : chkG a1 L1 = 0 → ∃ (n : Nat) (S E : List (Pm n)), QGp.Fit a1 L1 n S E) : ∃ q : List (List Int) × Int, Ev (fun k => Bs.quotV k a0 L0 a1 L1) q ∧ Ev (fun k => galoislaw27_CosetTables.j1 k q.1 q.2 a0 L0 a1 L1) true := by
  have step : ∀ q : List (List Int) × Int, Ev (fun k => (PGp.galoislaw27_groups.f k a0 L0 a1 L1).bind fun bt161 => (if bt161.2.2 = 0 then ((PGp.galoisref27_Core.f k bt161.1 bt161.2.1).bind fun t168 => (galoislaw27_CosetTables.j2 k q.1 q.2 bt161.1 bt161.2.1 bt161.2.2 (decide ((t168.length : Int) < (bt161.2.1.length : Int))))) else (galoislaw27_CosetTables.j2 k q.1 q.2 bt161.1 bt161.2.1 bt161.2.2 false))) true → Ev (fun k => galoislaw27_CosetTables.j1 k q.1 q.2 a0 L0 a1 L1) true := fun q h =>
    Ev.step (fun k => by simp only [galoislaw27_CosetTables.j1]) h
  by_cases ht : twoE a0 L0 a1 L1 = 0
  · obtain ⟨n, S, E, T, F, h⟩ := pair_of hs0 hs1 ht
    have hgr := groups_ev h ht
    by_cases hs : ∀ x ∈ F, x ∈ E
    · have he : subE E F = 0 := if_pos hs
      rw [he] at hgr
      have hcore := QCo.coreP h.hn h.srtF h.lenE h.lenF
      by_cases hN : Norm E F
      · refine ⟨_, quot_ok h hs hN, step _ ?_⟩
        refine Ev.bind hgr ?_
        simp only [if_true]
        refine Ev.bind hcore ?_
        have hc : ¬ (coreL E F).length < F.length := fun hh => (QCo.core_len E F).1 hh hN
        simp only [List.length_map, decide_eq_false (show ¬ ((coreL E F).length : Int) < (F.length : Int) by omega)]
        have hpos := h.subF.pos
        have hlag := lagrange h.subF h.subE hs
        have hdiv : wrap64 ((E.length : Int) / (F.length : Int)) = ((reps F E).length : Int) := by
          have h1 : E.length / F.length = (reps F E).length := by rw [← hlag]; exact Nat.mul_div_cancel _ hpos
          have h2 : (E.length : Int) / (F.length : Int) = ((E.length / F.length : Nat) : Int) := by rw [Int.natCast_ediv]
          rw [h2, h1]
          have h3 := reps_len F E
          have h4 := h.lenE
          exact w64_small (by omega) (by omega)
        refine Ev.step (f := fun k => galoislaw27_CosetTables.j3 k (if (reps F E).length ≤ 120 then (quotT E F, (0 : Int)) else ([], 4)).1 (if (reps F E).length ≤ 120 then (quotT E F, (0 : Int)) else ([], 4)).2 (E.map Pm.l) (F.map Pm.l) 0) (fun k => by simp only [galoislaw27_CosetTables.j2, Bool.false_eq_true, if_false]) ?_
        refine Ev.step (f := fun k => galoislaw27_CosetTables.j4 k (if (reps F E).length ≤ 120 then (quotT E F, (0 : Int)) else ([], 4)).1 (if (reps F E).length ≤ 120 then (quotT E F, (0 : Int)) else ([], 4)).2 (E.map Pm.l) (F.map Pm.l) 0 (decide (((reps F E).length : Int) > 120))) (fun k => by simp only [galoislaw27_CosetTables.j3, if_true, List.length_map, if_neg (show ¬ (F.length : Int) = 0 by omega), hdiv]) ?_
        by_cases c : (reps F E).length ≤ 120
        · rw [if_pos c, decide_eq_false (by omega)]
          refine Ev.step (f := fun k => galoislaw27_CosetTables.j5 k (quotT E F) 0 (E.map Pm.l) (F.map Pm.l) 0) (fun k => by simp only [galoislaw27_CosetTables.j4, Bool.false_eq_true, if_false]) ?_
          refine Ev.step (f := fun k => ((PGp.galoisref27_Quotient.f k (E.map Pm.l) (F.map Pm.l)).bind fun t171 => ((PRf.galoisref22_SameLists.f k (quotT E F) t171).bind fun t174 => (some t174)))) (fun k => by simp only [galoislaw27_CosetTables.j5, if_true]) ?_
          have hq := QCo.quotP h.hn h.subF h.subE hs h.lenE
          have hl := ct_rows_len E F h.lenE
          exact Ev.bind hq (Ev.bind (QRf.galoisref22_SameLists.ev_self (quotT E F) hl.1 hl.2) (Ev.now _))
        · rw [if_neg c, decide_eq_true (by omega)]
          refine Ev.step (f := fun k => galoislaw27_CosetTables.j5 k [] 4 (E.map Pm.l) (F.map Pm.l) 4) (fun k => by simp only [galoislaw27_CosetTables.j4, if_true]) ?_
          refine Ev.step (f := fun _ => some true) (fun k => ?_) (Ev.now _)
          simp only [galoislaw27_CosetTables.j5, if_neg (show ¬ (4 : Int) = 0 by decide), List.length_nil, if_true, beq_self_eq_true]
          rfl
      · refine ⟨_, quot_nonnormal h hs hN, step _ ?_⟩
        refine Ev.bind hgr ?_
        simp only [if_true]
        refine Ev.bind hcore ?_
        have hc := (QCo.core_len E F).2 hN
        simp only [List.length_map, decide_eq_true (show ((coreL E F).length : Int) < (F.length : Int) by omega)]
        exact Ev.step (f := fun k => galoislaw27_CosetTables.j3 k [] 29 (E.map Pm.l) (F.map Pm.l) 29) (fun k => by simp only [galoislaw27_CosetTables.j2, if_true]) (ct_err3 29 (by decide) _ _)
    · have he : subE E F = 15 := if_neg hs
      have h0 := check_ok h (perms := []) rfl
      rw [he] at h0 hgr
      refine ⟨_, quot_bad h0 (by decide), step _ ?_⟩
      refine Ev.bind hgr ?_
      simp only [if_neg (show ¬ (15 : Int) = 0 by decide)]
      exact ct_err2 15 (by decide) _ _
  · obtain ⟨e, he⟩ : ∃ e, twoE a0 L0 a1 L1 = e := ⟨_, rfl⟩
    have e0 : e ≠ 0 := he ▸ ht
    refine ⟨_, quot_bad (check_bad he e0 []) e0, step _ ?_⟩
    refine Ev.bind (groups_bad he e0) ?_
    simp only [if_neg e0]
    exact ct_err2 e e0 _ _
theorem ct_j0 (a0 : Int) (L0 : List (List Int)) (a1 : Int) (L1 : List (List Int)) (fl : Bool) (hs0 : fl = false → chkG a0 L0 = 0 → ∃ (n : Nat) (S E : List (Pm n)), QGp.Fit a0 L0 n S E) (hs1 : fl = false → chkG a1 L1 = 0 → ∃ (n : Nat) (S E : List (Pm n)), QGp.Fit a1 L1 n S E) : Ev (fun k => galoislaw27_CosetTables.j0 k fl a0 L0 a1 L1) true := by
  cases fl with
  | true => exact Ev.step (f := fun _ => some true) (fun k => by simp only [galoislaw27_CosetTables.j0, if_true]; rfl) (Ev.now _)
  | false =>
    refine Ev.step (f := fun k => ((Bs.tableV k a0 L0).bind fun bt144 => ((Bs.quotV k a0 L0 a1 L1).bind fun bt148 => ((PRf.galoisref23_Check.f k a0 L0).bind fun t152 => (if t152 = 0 then ((PGp.galoisref23_Elements.f k a0 L0).bind fun bt153 => (if (bt153.1.length : Int) > 120 then (if (bt144.1.length : Int) > 0 then (some false) else (if bt144.2 = 4 then (galoislaw27_CosetTables.j1 k bt148.1 bt148.2 a0 L0 a1 L1) else (some false))) else (if bt144.2 = 0 then ((PGp.galoisref27_Table.f k bt153.1).bind fun t157 => ((PRf.galoisref22_SameLists.f k bt144.1 t157).bind fun t160 => (if t160 = true then (galoislaw27_CosetTables.j1 k bt148.1 bt148.2 a0 L0 a1 L1) else (some false)))) else (some false)))) else (if (bt144.1.length : Int) = 0 then (if bt144.2 = t152 then (if (bt148.1.length : Int) = 0 then (some (bt148.2 == t152)) else (some false)) else (some false)) else (some false))))))) (fun k => by simp only [galoislaw27_CosetTables.j0, Bool.false_eq_true, if_false]) ?_
    obtain ⟨q, hq, hj⟩ := ct_j1 a0 L0 a1 L1 (hs0 rfl) (hs1 rfl)
    by_cases h0 : chkG a0 L0 = 0
    · obtain ⟨n, S, E, rfl, hn, rfl, hS, hE, hG, hl⟩ := hs0 rfl h0
      have hck := QRf.galoisref23_Check.ev (n : Int) (S.map Pm.l)
      rw [h0] at hck
      refine Ev.bind (table_ok hn hS hE hG hl) (Ev.bind hq (Ev.bind hck ?_))
      simp only [if_true]
      refine Ev.bind (QCo.elsRP hn hE hG hl) ?_
      simp only [List.length_map]
      by_cases c : E.length ≤ 120
      · simp only [if_neg (show ¬ ((E.length : Int) > 120) by omega), if_pos c, if_true]
        have hll : (rowsOf (fun y => ((E.idxOf y : Nat) : Int)) E).length < 4611686018427387904 ∧ ∀ c ∈ rowsOf (fun y => ((E.idxOf y : Nat) : Int)) E, c.length < 4611686018427387904 := by
          unfold rowsOf
          refine ⟨by rw [List.length_map]; omega, fun c hc => ?_⟩
          obtain ⟨p, _, rfl⟩ := List.mem_map.1 hc
          rw [List.length_map]; omega
        refine Ev.bind (QCo.tableP hn (SubL.of_gen hE hG) hl) (Ev.bind (QRf.galoisref22_SameLists.ev_self _ hll.1 hll.2) ?_)
        simp only [if_true]
        exact hj
      · simp only [if_pos (show ((E.length : Int) > 120) by omega), if_neg c, List.length_nil, if_true]
        exact hj
    · obtain ⟨e, he⟩ : ∃ e, chkG a0 L0 = e := ⟨_, rfl⟩
      have e0 : e ≠ 0 := he ▸ h0
      have h2 : twoE a0 L0 a1 L1 = e := by unfold twoE; rw [he, if_neg e0]
      have hck := QRf.galoisref23_Check.ev a0 L0
      rw [he] at hck
      refine Ev.bind (table_bad he e0) (Ev.bind (quot_bad (check_bad h2 e0 []) e0) (Ev.bind hck ?_))
      simp only [if_neg e0, List.length_nil, if_true, beq_self_eq_true]
      exact Ev.now _
theorem CosetTables : galoislaw27_CosetTables.Pure := by
  intro a0 L0 a1 L1 _ _ _ _ _ _
  apply Ev.rounds
  refine Ev.congr (f := fun k => ((PGp.galoislaw27_large.f k a0 L0).bind fun t141 => (if t141 = true then (galoislaw27_CosetTables.j0 k true a0 L0 a1 L1) else ((PGp.galoislaw27_large.f k a1 L1).bind fun t142 => (galoislaw27_CosetTables.j0 k t142 a0 L0 a1 L1))))) (fun k => rfl) ?_
  obtain ⟨b0, h0, s0⟩ := QGp.large_ev a0 L0
  obtain ⟨b1, h1, s1⟩ := QGp.large_ev a1 L1
  refine Ev.bind h0 ?_
  cases b0 with
  | true => simp only [if_true]; exact ct_j0 a0 L0 a1 L1 true (fun h => by cases h) (fun h => by cases h)
  | false =>
    simp only [Bool.false_eq_true, if_false]
    refine Ev.bind h1 ?_
    exact ct_j0 a0 L0 a1 L1 b1 (fun _ => s0 rfl) (fun h => s1 h)
end Go.Proofs.Ytaaaljifclecnaa.Pure
