/- CosetForms: the index, the representatives, and the number of the coset of an element are those of the reference, or have its errors. -/
import Derived.Test.YtaaaljifclecnaaZCosetFormsPFox1
import Derived.Test.YtaaaljifclecnaaZCosetFormsPFox2
import Derived.Test.YtaaaljifclecnaaZCosetFormsMg0
import Derived.Test.YtaaaljifclecnaaZCosetFormsMg4
namespace Go.Proofs.Ytaaaljifclecnaa.Pure
open Go.RowKit Go.Proofs.Ytaaaljifclecnaa.PFo Go.Proofs.YtaaaljifclecnaaW.PrintWords Go.Proofs.YtaaaljifclecnaaW.PrintLast Go.Proofs.Ytaaaljifclecnaa.Plain
set_option linter.unusedVariables false
set_option linter.unusedSimpArgs false
open Go.Proofs.Ytaaaljifclecnaa.Pms Go.Proofs.Ytaaaljifclecnaa.QPr Go.Proofs.Ytaaaljifclecnaa.QCl
open Go.Proofs.Ytaaaljifclecnaa.Bs (checkM)
theorem cf_all (e v : Int) (l2 : List Int) (he : e ≠ 0) (E F : List (List Int)) : Ev (fun k => galoislaw27_CosetForms.j2 k l2 0 e [] e 0 v E F e v) true := by
  refine Ev.step (f := fun _ => some true) (fun k => ?_) (Ev.now _)
  simp only [galoislaw27_CosetForms.j2, if_neg he, if_true, List.length_nil, beq_self_eq_true]
  rfl
theorem cf_j1 (e v w : Int) (l2 : List Int) (x7 x8 : Int) (x9 : List (List Int)) (x10 x11 x12 : Int) (E F : List (List Int)) (hw : w = if v = 0 then e else v) (h : Ev (fun k => galoislaw27_CosetForms.j2 k l2 x7 x8 x9 x10 x11 x12 E F e w) true) : Ev (fun k => galoislaw27_CosetForms.j1 k l2 x7 x8 x9 x10 x11 x12 E F e v) true := by
  refine Ev.step (f := fun k => galoislaw27_CosetForms.j2 k l2 x7 x8 x9 x10 x11 x12 E F e w) (fun k => ?_) h
  subst hw
  by_cases c : v = 0
  · simp only [galoislaw27_CosetForms.j1, if_pos c]
  · simp only [galoislaw27_CosetForms.j1, if_neg c]
theorem cf_j3 {n : Nat} {a0 a1 : Int} {L0 L1 : List (List Int)} {S E T F : List (Pm n)} (h : Pair a0 L0 a1 L1 n S E T F) (hs : ∀ x ∈ F, x ∈ E) (l2 : List Int) (v : Int) (hv : v = chkE (n : Int) l2) (x11 x12 : Int) (hb : v ≠ 0 → x11 = 0 ∧ x12 = v) (hg : ∀ p : Pm n, p.l = l2 → (x11, x12) = if p ∈ E then (((cnum F E p : Nat) : Int), 0) else (0, 28)) : Ev (fun k => galoislaw27_CosetForms.j3 k l2 x11 x12 (E.map Pm.l) (F.map Pm.l) v ((reps F E).map Pm.l) false) true := by
  by_cases c : v = 0
  · obtain ⟨p, rfl⟩ := chkE_to (hv.symm.trans c)
    have hx := hg p rfl
    refine Ev.step (f := fun k => (galoisref23_Has.f k (E.map Pm.l) p.l).bind fun t165 => (if t165 = true then (if x12 = 0 then ((galoisref27_Find.f k (F.map Pm.l) ((reps F E).map Pm.l) p.l).bind fun t166 => (some (x11 == t166))) else (some false)) else (if x11 = 0 then (some (x12 == 28)) else (some false)))) (fun k => by simp only [galoislaw27_CosetForms.j3, Bool.false_eq_true, if_false, if_pos c]) ?_
    refine Ev.bind (hasP h.hn h.srtE (by have := h.lenE; omega) p) ?_
    by_cases m : p ∈ E
    · rw [if_pos m] at hx
      obtain ⟨rfl, rfl⟩ := Prod.mk.inj hx
      simp only [decide_eq_true m, if_true]
      refine Ev.bind (QCo.findP h.hn h.subF h.subE hs h.lenE m) ?_
      simp only [beq_self_eq_true]
      exact Ev.now _
    · rw [if_neg m] at hx
      obtain ⟨rfl, rfl⟩ := Prod.mk.inj hx
      simp only [decide_eq_false m, Bool.false_eq_true, if_false, if_true, beq_self_eq_true]
      exact Ev.now _
  · obtain ⟨rfl, rfl⟩ := hb c
    refine Ev.step (f := fun _ => some true) (fun k => ?_) (Ev.now _)
    simp only [galoislaw27_CosetForms.j3, Bool.false_eq_true, if_false, if_neg c, if_true, beq_self_eq_true]
theorem cf_j0 (a0 : Int) (L0 : List (List Int)) (a1 : Int) (L1 : List (List Int)) (l2 : List Int) (fl : Bool) (hs0 : fl = false → chkG a0 L0 = 0 → ∃ (n : Nat) (S E : List (Pm n)), QGp.Fit a0 L0 n S E) (hs1 : fl = false → chkG a1 L1 = 0 → ∃ (n : Nat) (S E : List (Pm n)), QGp.Fit a1 L1 n S E) : Ev (fun k => galoislaw27_CosetForms.j0 k l2 fl a0 L0 a1 L1) true := by
  cases fl with
  | true => exact Ev.step (f := fun _ => some true) (fun k => by simp only [galoislaw27_CosetForms.j0, if_true]; rfl) (Ev.now _)
  | false =>
    refine Ev.step (f := fun k => ((Bs.indexV k a0 L0 a1 L1).bind fun bt144 => ((Bs.repsV k a0 L0 a1 L1).bind fun bt146 => ((Bs.findV k a0 L0 a1 L1 l2).bind fun bt150 => ((PGp.galoislaw27_groups.f k a0 L0 a1 L1).bind fun bt152 => ((PRf.galoisref23_Two.f k a0 L0 a1 L1).bind fun t159 => (if t159 = 0 then ((PRf.galoisref23_With.f k a0 L0 l2).bind fun t160 => (galoislaw27_CosetForms.j1 k l2 bt144.1 bt144.2 bt146.1 bt146.2 bt150.1 bt150.2 bt152.1 bt152.2.1 bt152.2.2 t160)) else (galoislaw27_CosetForms.j1 k l2 bt144.1 bt144.2 bt146.1 bt146.2 bt150.1 bt150.2 bt152.1 bt152.2.1 bt152.2.2 t159)))))))) (fun k => by simp only [galoislaw27_CosetForms.j0, Bool.false_eq_true, if_false]) ?_
    by_cases ht : twoE a0 L0 a1 L1 = 0
    · obtain ⟨n, S, E, T, F, h⟩ := pair_of (hs0 rfl) (hs1 rfl) ht
      obtain ⟨v, hv⟩ : ∃ v, chkE (n : Int) l2 = v := ⟨_, rfl⟩
      have hw : Ev (fun k => PRf.galoisref23_With.f k a0 L0 l2) v := by
        have := QRf.galoisref23_With.ev a0 L0 l2
        rw [if_pos (by rw [h.d0, ← h.g0]; exact chkG_Pm h.hn S h.hS), h.d0, hv] at this
        rw [h.d0]; exact this
      have h2 := two_ev a0 L0 a1 L1
      rw [ht] at h2
      by_cases hs : ∀ x ∈ F, x ∈ E
      · have hgr := groups_ev h ht
        unfold subE at hgr
        rw [if_pos hs] at hgr
        obtain ⟨f, hf, hb, hgd⟩ : ∃ f : Int × Int, Ev (fun k => Bs.findV k a0 L0 a1 L1 l2) f ∧ (v ≠ 0 → f.1 = 0 ∧ f.2 = v) ∧ ∀ p : Pm n, p.l = l2 → (f.1, f.2) = if p ∈ E then (((cnum F E p : Nat) : Int), 0) else (0, 28) := by
          by_cases c : v = 0
          · obtain ⟨p, rfl⟩ := chkE_to (hv.trans c)
            refine ⟨_, find_ok h hs p, fun hh => absurd c hh, fun q hq => ?_⟩
            obtain rfl : q = p := Pm.eq_of_l hq
            rfl
          · refine ⟨_, find_bad (check_perm2 h (e := v) (by rw [chkAll, hv, if_neg c]) c) c, fun _ => ⟨rfl, rfl⟩, fun p hp => ?_⟩
            rw [← hp, chkE_Pm h.hn p] at hv
            exact absurd hv.symm c
        refine Ev.bind (index_ok h hs) (Ev.bind (repsV_ok h hs) (Ev.bind hf (Ev.bind hgr (Ev.bind h2 ?_))))
        simp only [if_true]
        refine Ev.bind hw ?_
        refine cf_j1 0 v v l2 _ _ _ _ _ _ _ _ (by by_cases c : v = 0 <;> simp [c]) ?_
        refine Ev.step (f := fun k => ((Bs.galoisref27_Representatives.f k (E.map Pm.l) (F.map Pm.l)).bind fun t161 => (if ((reps F E).length : Int) = (t161.length : Int) then ((PRf.galoisref22_SamePerms.f k ((reps F E).map Pm.l) t161).bind fun t164 => (galoislaw27_CosetForms.j3 k l2 f.1 f.2 (E.map Pm.l) (F.map Pm.l) v t161 (!t164))) else (galoislaw27_CosetForms.j3 k l2 f.1 f.2 (E.map Pm.l) (F.map Pm.l) v t161 true)))) (fun k => by simp only [galoislaw27_CosetForms.j2, if_true]) ?_
        refine Ev.bind (QCo.repsP h.hn h.subF h.lenF E h.lenE) ?_
        simp only [List.length_map, if_true]
        refine Ev.bind (QCo.samePermsP h.hn _ _ rfl (by have := reps_len F E; have := h.lenE; omega)) ?_
        simp only [decide_true, Bool.not_true]
        exact cf_j3 h hs l2 v hv.symm f.1 f.2 hb hgd
      · have hgr := groups_ev h ht
        have he : subE E F = 15 := if_neg hs
        rw [he] at hgr
        have h0 := check_ok h (perms := []) rfl
        rw [he] at h0
        have n15 : (15 : Int) ≠ 0 := by decide
        obtain ⟨w, hw2, hww⟩ : ∃ w : Int, Ev (fun k => Bs.findV k a0 L0 a1 L1 l2) (0, w) ∧ w = if v = 0 then 15 else v := by
          by_cases c : v = 0
          · have h1 := check_ok h (perms := [l2]) (by rw [chkAll, hv, if_pos c]; rfl)
            rw [he] at h1
            exact ⟨15, find_bad h1 n15, by rw [if_pos c]⟩
          · exact ⟨v, find_bad (check_perm2 h (e := v) (by rw [chkAll, hv, if_neg c]) c) c, by rw [if_neg c]⟩
        refine Ev.bind (index_bad h0 n15) (Ev.bind (repsV_bad h0 n15) (Ev.bind hw2 (Ev.bind hgr (Ev.bind h2 ?_))))
        simp only [if_true]
        refine Ev.bind hw ?_
        exact cf_j1 15 v w l2 _ _ _ _ _ _ _ _ hww (cf_all 15 w l2 n15 _ _)
    · obtain ⟨e, he⟩ : ∃ e, twoE a0 L0 a1 L1 = e := ⟨_, rfl⟩
      have e0 : e ≠ 0 := he ▸ ht
      have h2 := two_ev a0 L0 a1 L1
      rw [he] at h2
      refine Ev.bind (index_bad (check_bad he e0 []) e0) (Ev.bind (repsV_bad (check_bad he e0 []) e0) (Ev.bind (find_bad (check_bad he e0 [l2]) e0) (Ev.bind (groups_bad he e0) (Ev.bind h2 ?_))))
      simp only [if_neg e0]
      exact cf_j1 e e e l2 _ _ _ _ _ _ _ _ (by rw [if_neg e0]) (cf_all e e l2 e0 _ _)
theorem CosetForms : galoislaw27_CosetForms.Pure := by
  intro a0 L0 a1 L1 l2 _ _ _ _ _ _ _ _
  apply Ev.rounds
  refine Ev.congr (f := fun k => ((PGp.galoislaw27_large.f k a0 L0).bind fun t141 => (if t141 = true then (galoislaw27_CosetForms.j0 k l2 true a0 L0 a1 L1) else ((PGp.galoislaw27_large.f k a1 L1).bind fun t142 => (if t142 = true then (galoislaw27_CosetForms.j0 k l2 true a0 L0 a1 L1) else (galoislaw27_CosetForms.j0 k l2 (decide ((l2.length : Int) > 40)) a0 L0 a1 L1)))))) (fun k => rfl) ?_
  obtain ⟨b0, h0, s0⟩ := QGp.large_ev a0 L0
  obtain ⟨b1, h1, s1⟩ := QGp.large_ev a1 L1
  have tr : Ev (fun k => galoislaw27_CosetForms.j0 k l2 true a0 L0 a1 L1) true := cf_j0 a0 L0 a1 L1 l2 true (fun h => by cases h) (fun h => by cases h)
  refine Ev.bind h0 ?_
  cases b0 with
  | true => simp only [if_true]; exact tr
  | false =>
    simp only [Bool.false_eq_true, if_false]
    refine Ev.bind h1 ?_
    cases b1 with
    | true => simp only [if_true]; exact tr
    | false =>
      simp only [Bool.false_eq_true, if_false]
      exact cf_j0 a0 L0 a1 L1 l2 _ (fun _ => s0 rfl) (fun _ => s1 rfl)
end Go.Proofs.Ytaaaljifclecnaa.Pure
