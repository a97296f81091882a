/- CosetDoubles: the double cosets are those of the reference, or have its errors. -/
import Derived.Test.YtaaaljifclecnaaZCosetDoublesPDux2
import Derived.Test.YtaaaljifclecnaaZCosetDoublesMg0
import Derived.Test.YtaaaljifclecnaaZCosetDoublesMg4
import Derived.Test.YtaaaljifclecnaaZCosetDoublesMg5
namespace Go.Proofs.Ytaaaljifclecnaa.Pure
open Go.RowKit Go.Proofs.Ytaaaljifclecnaa.PDu Go.Proofs.YtaaaljifclecnaaW.PrintWords Go.Proofs.YtaaaljifclecnaaW.PrintLast Go.Proofs.Ytaaaljifclecnaa.Plain
set_option linter.unusedVariables false
set_option linter.unusedSimpArgs false
open Go.Proofs.Ytaaaljifclecnaa.Pms Go.Proofs.Ytaaaljifclecnaa.QPr Go.Proofs.Ytaaaljifclecnaa.QCl Go.Proofs.Ytaaaljifclecnaa.CoP
open Go.Proofs.Ytaaaljifclecnaa.Bs (checkM)
theorem du_good (a0 : Int) (L0 : List (List Int)) (a1 : Int) (L1 : List (List Int)) (a2 : Int) (L2 : List (List Int)) (x7 : List (List Int)) (x8 : List Int) (x9 : Int) (Y : List S24) (i : Nat) (hi : i < Y.length) (hY : Y.length = 3) (g : S24) (hg : rd_T24 Y (i : Int) = g) (hc : chkG g.f0 g.f1 = 0) (h : Ev (fun k => galoislaw27_CosetDoubles.l0 k x7 x8 x9 Y (Y.length : Int) ((i + 1 : Nat) : Int) a0 L0 a1 L1 a2 L2) true) : Ev (fun k => galoislaw27_CosetDoubles.l0 k x7 x8 x9 Y (Y.length : Int) (i : Int) a0 L0 a1 L1 a2 L2) true := by
  have hck := QRf.galoisref23_Check.ev g.f0 g.f1
  rw [hc] at hck
  refine Ev.step (f := fun k => (PRf.galoisref23_Check.f k g.f0 g.f1).bind fun t158 => (if t158 = 0 then galoislaw27_CosetDoubles.l0 k x7 x8 x9 Y (Y.length : Int) ((i + 1 : Nat) : Int) a0 L0 a1 L1 a2 L2 else (if (x7.length : Int) = 0 then (if (x8.length : Int) = 0 then (some (x9 == t158)) else (some false)) else (some false)))) (fun k => ?_) (Ev.bind hck (by simp only [if_true]; exact h))
  simp only [galoislaw27_CosetDoubles.l0]
  rw [if_pos (by omega), if_pos (by omega), if_pos (by omega), hg, wrap_nat (by omega)]
theorem du_bad (a0 : Int) (L0 : List (List Int)) (a1 : Int) (L1 : List (List Int)) (a2 : Int) (L2 : List (List Int)) (e : Int) (he : e ≠ 0) (Y : List S24) (i : Nat) (hi : i < Y.length) (hY : Y.length = 3) (g : S24) (hg : rd_T24 Y (i : Int) = g) (hc : chkG g.f0 g.f1 = e) : Ev (fun k => galoislaw27_CosetDoubles.l0 k [] [] e Y (Y.length : Int) (i : Int) a0 L0 a1 L1 a2 L2) true := by
  have hck := QRf.galoisref23_Check.ev g.f0 g.f1
  rw [hc] at hck
  refine Ev.step (f := fun k => (PRf.galoisref23_Check.f k g.f0 g.f1).bind fun t158 => (if t158 = 0 then galoislaw27_CosetDoubles.l0 k [] [] e Y (Y.length : Int) ((i + 1 : Nat) : Int) a0 L0 a1 L1 a2 L2 else (if ((([] : List (List Int)).length : Nat) : Int) = 0 then (if ((([] : List Int).length : Nat) : Int) = 0 then (some (e == t158)) else (some false)) else (some false)))) (fun k => ?_) (Ev.bind hck ?_)
  · simp only [galoislaw27_CosetDoubles.l0]
    rw [if_pos (by omega), if_pos (by omega), if_pos (by omega), hg, wrap_nat (by omega)]
  · simp only [if_neg he, List.length_nil, beq_self_eq_true]
    exact Ev.now _
theorem du_end (a0 : Int) (L0 : List (List Int)) (a1 : Int) (L1 : List (List Int)) (a2 : Int) (L2 : List (List Int)) (x7 : List (List Int)) (x8 : List Int) (x9 : Int) (Y : List S24) (h : Ev (fun k => galoislaw27_CosetDoubles.j2 k x7 x8 x9 (!decide (a0 = a1 ∧ a0 = a2)) a0 L0 a1 L1 a2 L2) true) : Ev (fun k => galoislaw27_CosetDoubles.l0 k x7 x8 x9 Y (Y.length : Int) (Y.length : Int) a0 L0 a1 L1 a2 L2) true := by
  refine Ev.step (f := fun k => galoislaw27_CosetDoubles.j2 k x7 x8 x9 (!decide (a0 = a1 ∧ a0 = a2)) a0 L0 a1 L1 a2 L2) (fun k => ?_) h
  simp only [galoislaw27_CosetDoubles.l0]
  rw [if_neg (by omega)]
  by_cases c : a0 = a1
  · rw [if_pos c]
    by_cases d : a0 = a2
    · have e1 : (a0 != a2) = false := by simp [d]
      rw [e1, decide_eq_true (show a0 = a1 ∧ a0 = a2 from ⟨c, d⟩)]; rfl
    · have e1 : (a0 != a2) = true := bne_iff_ne.2 d
      rw [e1, decide_eq_false (show ¬ (a0 = a1 ∧ a0 = a2) from fun hh => d hh.2)]; rfl
  · rw [if_neg c, decide_eq_false (show ¬ (a0 = a1 ∧ a0 = a2) from fun hh => c hh.1)]; rfl
theorem du_same {n : Nat} {a0 a1 a2 : Int} {L0 L1 L2 : List (List Int)} {S E T F U K : List (Pm n)} (h : Pair a0 L0 a1 L1 n S E T F) (g : Pair a0 L0 a2 L2 n S E U K) (ht : twoE a0 L0 a1 L1 = 0) (hu : twoE a0 L0 a2 L2 = 0) : ∃ d : List (List Int) × List Int × Int, Ev (fun k => Bs.doubV k a0 L0 a1 L1 a2 L2) d ∧ Ev (fun k => galoislaw27_CosetDoubles.j2 k d.1 d.2.1 d.2.2 false a0 L0 a1 L1 a2 L2) true := by
  have hgr := groups_ev h ht
  have hgk := groups_ev g hu
  have n15 : ¬ (15 : Int) = 0 := by decide
  have step : ∀ d : List (List Int) × List Int × Int, Ev (fun k => ((PGp.galoislaw27_groups.f k a0 L0 a1 L1).bind fun bt159 => ((PGp.galoislaw27_groups.f k a0 L0 a2 L2).bind fun bt166 => (if bt159.2.2 = 0 then (galoislaw27_CosetDoubles.j3 k d.1 d.2.1 d.2.2 bt159.1 bt159.2.1 bt166.2.1 (bt166.2.2 != 0)) else (galoislaw27_CosetDoubles.j3 k d.1 d.2.1 d.2.2 bt159.1 bt159.2.1 bt166.2.1 true))))) true → Ev (fun k => galoislaw27_CosetDoubles.j2 k d.1 d.2.1 d.2.2 false a0 L0 a1 L1 a2 L2) true := fun d hd =>
    Ev.step (fun k => by simp only [galoislaw27_CosetDoubles.j2, Bool.false_eq_true, if_false]) hd
  have bad : ∀ x13 x14 x17, Ev (fun k => galoislaw27_CosetDoubles.j3 k [] [] 15 x13 x14 x17 true) true := fun x13 x14 x17 =>
    Ev.step (f := fun _ => some true) (fun k => by simp only [galoislaw27_CosetDoubles.j3, if_true, List.length_nil, beq_self_eq_true]; rfl) (Ev.now _)
  have hsg := gens_sub h
  have hkg := gens_sub g
  have hck : (¬ ((∀ x ∈ F, x ∈ E) ∧ ∀ x ∈ K, x ∈ E)) → Ev (fun k => checkM k (a0, L0) [(a1, L1), (a2, L2)] []) 15 := fun hn => by
    have hc := check_rest h.hn h.hS h.srtE h.allE (by have := h.lenE; omega) [T, U] (fun x hx => by
      rcases List.mem_cons.1 hx with e | e
      · rw [e]; exact h.hT
      · rw [List.mem_singleton.1 e]; exact g.hT) (perms := []) rfl
    rw [if_neg (fun hh => hn ⟨hsg.2 (hh T (List.mem_cons_self ..)), hkg.2 (hh U (List.mem_cons_of_mem _ (List.mem_singleton.2 rfl)))⟩)] at hc
    simp only [List.map_cons, List.map_nil, h.g0, h.g1, g.g1, ← h.d0] at hc
    have e1 : a1 = a0 := by rw [h.d0, h.d1]
    have e2 : a2 = a0 := by rw [g.d0, g.d1]
    rw [e1, e2]; exact hc
  by_cases hs : ∀ x ∈ F, x ∈ E
  · have he : subE E F = 0 := if_pos hs
    rw [he] at hgr
    by_cases hk : ∀ x ∈ K, x ∈ E
    · have he2 : subE E K = 0 := if_pos hk
      rw [he2] at hgk
      refine ⟨_, doub_ok h g hs hk, step _ ?_⟩
      refine Ev.bind hgr (Ev.bind hgk ?_)
      have e00 : ((0 : Int) != 0) = false := rfl
      simp only [if_true, e00]
      have hj4 : ∀ b : Bool, Ev (fun k => galoislaw27_CosetDoubles.j4 k ((dreps F K E).map Pm.l) ((dreps F K E).map fun p => (((dcl F K E p).length : Nat) : Int)) 0 (E.map Pm.l) (F.map Pm.l) (K.map Pm.l) b) true := fun b => by
        cases b with
        | true => exact Ev.step (f := fun _ => some true) (fun k => by simp only [galoislaw27_CosetDoubles.j4, if_true, beq_self_eq_true]) (Ev.now _)
        | false =>
          refine Ev.step (f := fun k => ((Bs.galoisref27_DoubleCosets.f k (E.map Pm.l) (F.map Pm.l) (K.map Pm.l)).bind fun bt173 => ((PRf.galoisref22_SamePerms.f k ((dreps F K E).map Pm.l) bt173.1).bind fun t179 => (if t179 = true then ((PRf.galoisref22_Same.f k ((dreps F K E).map fun p => (((dcl F K E p).length : Nat) : Int)) bt173.2).bind fun t180 => (some t180)) else (some false))))) (fun k => by simp only [galoislaw27_CosetDoubles.j4, Bool.false_eq_true, if_false, if_true]) ?_
          have hdl : (dreps F K E).length ≤ E.length := List.length_filter_le _ _
          have hEl := h.lenE
          refine Ev.bind (QCo.doublesP h.hn h.subE h.subF g.subF hs hk h.lenE) (Ev.bind (QCo.samePermsP h.hn _ _ rfl (by omega)) ?_)
          simp only [decide_true, if_true]
          refine Ev.bind (QRf.galoisref22_Same.ev _ _ (by rw [List.length_map]; omega)) ?_
          simp only [decide_true]
          exact Ev.now _
      by_cases c1 : ((E.map Pm.l).length : Int) > 120
      · exact Ev.step (f := fun k => galoislaw27_CosetDoubles.j4 k _ _ 0 (E.map Pm.l) (F.map Pm.l) (K.map Pm.l) true) (fun k => by simp only [galoislaw27_CosetDoubles.j3, Bool.false_eq_true, if_false, if_pos c1]) (hj4 true)
      · by_cases c2 : ((F.map Pm.l).length : Int) > 24
        · exact Ev.step (f := fun k => galoislaw27_CosetDoubles.j4 k _ _ 0 (E.map Pm.l) (F.map Pm.l) (K.map Pm.l) true) (fun k => by simp only [galoislaw27_CosetDoubles.j3, Bool.false_eq_true, if_false, if_neg c1, if_pos c2]) (hj4 true)
        · exact Ev.step (f := fun k => galoislaw27_CosetDoubles.j4 k _ _ 0 (E.map Pm.l) (F.map Pm.l) (K.map Pm.l) (decide (((K.map Pm.l).length : Int) > 24))) (fun k => by simp only [galoislaw27_CosetDoubles.j3, Bool.false_eq_true, if_false, if_neg c1, if_neg c2]) (hj4 _)
    · have he2 : subE E K = 15 := if_neg hk
      rw [he2] at hgk
      refine ⟨_, doub_bad (hck fun hh => hk hh.2) n15, step _ ?_⟩
      refine Ev.bind hgr (Ev.bind hgk ?_)
      have e15 : ((15 : Int) != 0) = true := rfl
      simp only [if_true, e15]
      exact bad _ _ _
  · have he : subE E F = 15 := if_neg hs
    rw [he] at hgr
    refine ⟨_, doub_bad (hck fun hh => hs hh.1) n15, step _ ?_⟩
    refine Ev.bind hgr (Ev.bind hgk ?_)
    simp only [if_neg n15]
    exact bad _ _ _
theorem du_j0 (a0 : Int) (L0 : List (List Int)) (a1 : Int) (L1 : List (List Int)) (a2 : Int) (L2 : List (List Int)) (fl : Bool) (hs0 : fl = false → chkG a0 L0 = 0 → ∃ (n : Nat) (S E : List (Pm n)), QGp.Fit a0 L0 n S E) (hs1 : fl = false → chkG a1 L1 = 0 → ∃ (n : Nat) (S E : List (Pm n)), QGp.Fit a1 L1 n S E) (hs2 : fl = false → chkG a2 L2 = 0 → ∃ (n : Nat) (S E : List (Pm n)), QGp.Fit a2 L2 n S E) : Ev (fun k => galoislaw27_CosetDoubles.j0 k fl a0 L0 a1 L1 a2 L2) true := by
  cases fl with
  | true => exact Ev.step (f := fun _ => some true) (fun k => by simp only [galoislaw27_CosetDoubles.j0, if_true]; rfl) (Ev.now _)
  | false =>
    obtain ⟨Y, hY⟩ : ∃ Y : List S24, Y = [⟨a0, L0⟩, ⟨a1, L1⟩, ⟨a2, L2⟩] := ⟨_, rfl⟩
    have hYl : Y.length = 3 := by rw [hY]; rfl
    have y0 : rd_T24 Y ((0 : Nat) : Int) = ⟨a0, L0⟩ := by rw [hY]; rfl
    have y1 : rd_T24 Y ((1 : Nat) : Int) = ⟨a1, L1⟩ := by rw [hY]; rfl
    have y2 : rd_T24 Y ((2 : Nat) : Int) = ⟨a2, L2⟩ := by rw [hY]; rfl
    refine Ev.step (f := fun k => ((Bs.doubV k a0 L0 a1 L1 a2 L2).bind fun bt146 => galoislaw27_CosetDoubles.l0 k bt146.1 bt146.2.1 bt146.2.2 Y (Y.length : Int) ((0 : Nat) : Int) a0 L0 a1 L1 a2 L2)) (fun k => by simp only [galoislaw27_CosetDoubles.j0, Bool.false_eq_true, if_false, ← hY]; rfl) ?_
    have hf : firstG [(a0, L0), (a1, L1), (a2, L2)] = if chkG a0 L0 = 0 then (if chkG a1 L1 = 0 then (if chkG a2 L2 = 0 then 0 else chkG a2 L2) else chkG a1 L1) else chkG a0 L0 := rfl
    by_cases c0 : chkG a0 L0 = 0
    · by_cases c1 : chkG a1 L1 = 0
      · by_cases c2 : chkG a2 L2 = 0
        · rw [if_pos c0, if_pos c1, if_pos c2] at hf
          have walk : ∀ d : List (List Int) × List Int × Int, Ev (fun k => galoislaw27_CosetDoubles.j2 k d.1 d.2.1 d.2.2 (!decide (a0 = a1 ∧ a0 = a2)) a0 L0 a1 L1 a2 L2) true → Ev (fun k => galoislaw27_CosetDoubles.l0 k d.1 d.2.1 d.2.2 Y (Y.length : Int) ((0 : Nat) : Int) a0 L0 a1 L1 a2 L2) true := fun d hd => by
            refine du_good a0 L0 a1 L1 a2 L2 _ _ _ Y 0 (by omega) hYl _ y0 c0 (du_good a0 L0 a1 L1 a2 L2 _ _ _ Y 1 (by omega) hYl _ y1 c1 (du_good a0 L0 a1 L1 a2 L2 _ _ _ Y 2 (by omega) hYl _ y2 c2 ?_))
            have := du_end a0 L0 a1 L1 a2 L2 d.1 d.2.1 d.2.2 Y hd
            rw [hYl] at this ⊢
            exact this
          by_cases hd : a0 = a1 ∧ a0 = a2
          · obtain ⟨n, S, E, f⟩ := hs0 rfl c0
            obtain ⟨m, T, F, g⟩ := hs1 rfl c1
            obtain ⟨m2, U, K, g2⟩ := hs2 rfl c2
            have e1 : n = m := by have := f.deg; have := g.deg; omega
            have e2 : n = m2 := by have := f.deg; have := g2.deg; omega
            subst e1
            subst e2
            have ht : twoE a0 L0 a1 L1 = 0 := by unfold twoE; rw [if_pos c0, if_pos c1, if_pos hd.1]
            have hu : twoE a0 L0 a2 L2 = 0 := by unfold twoE; rw [if_pos c0, if_pos c2, if_pos hd.2]
            obtain ⟨d, h1, h2⟩ := du_same (⟨f.deg, g.deg, f.gens, g.gens, f.hn, f.len, g.len, f.srt, g.srt, f.all, g.all, f.few, g.few⟩ : Pair a0 L0 a1 L1 n S E T F) (⟨f.deg, g2.deg, f.gens, g2.gens, f.hn, f.len, g2.len, f.srt, g2.srt, f.all, g2.all, f.few, g2.few⟩ : Pair a0 L0 a2 L2 n S E U K) ht hu
            refine Ev.bind h1 (walk d ?_)
            rw [decide_eq_true hd]
            exact h2
          · refine Ev.bind (doub_bad (check_shape [] hf (fun hh => hd ⟨(hh (a1, L1) (List.mem_cons_self ..)).symm, (hh (a2, L2) (List.mem_cons_of_mem _ (List.mem_singleton.2 rfl))).symm⟩)) (by decide)) (walk _ ?_)
            rw [decide_eq_false hd]
            exact Ev.step (f := fun _ => some true) (fun k => by simp only [galoislaw27_CosetDoubles.j2, if_true, List.length_nil, beq_self_eq_true]; rfl) (Ev.now _)
        · rw [if_pos c0, if_pos c1, if_neg c2] at hf
          refine Ev.bind (doub_bad (check_first [] hf c2) c2) ?_
          exact du_good a0 L0 a1 L1 a2 L2 _ _ _ Y 0 (by omega) hYl _ y0 c0 (du_good a0 L0 a1 L1 a2 L2 _ _ _ Y 1 (by omega) hYl _ y1 c1 (du_bad a0 L0 a1 L1 a2 L2 _ c2 Y 2 (by omega) hYl _ y2 rfl))
      · rw [if_pos c0, if_neg c1] at hf
        refine Ev.bind (doub_bad (check_first [] hf c1) c1) ?_
        exact du_good a0 L0 a1 L1 a2 L2 _ _ _ Y 0 (by omega) hYl _ y0 c0 (du_bad a0 L0 a1 L1 a2 L2 _ c1 Y 1 (by omega) hYl _ y1 rfl)
    · rw [if_neg c0] at hf
      refine Ev.bind (doub_bad (check_first [] hf c0) c0) ?_
      exact du_bad a0 L0 a1 L1 a2 L2 _ c0 Y 0 (by omega) hYl _ y0 rfl
theorem CosetDoubles : galoislaw27_CosetDoubles.Pure := by
  intro a0 L0 a1 L1 a2 L2 _ _ _ _ _ _ _ _ _
  apply Ev.rounds
  refine Ev.congr (f := fun k => ((PGp.galoislaw27_large.f k a0 L0).bind fun t142 => (if t142 = true then (galoislaw27_CosetDoubles.j0 k true a0 L0 a1 L1 a2 L2) else ((PGp.galoislaw27_large.f k a1 L1).bind fun t143 => (if t143 = true then (galoislaw27_CosetDoubles.j0 k true a0 L0 a1 L1 a2 L2) else ((PGp.galoislaw27_large.f k a2 L2).bind fun t144 => (galoislaw27_CosetDoubles.j0 k t144 a0 L0 a1 L1 a2 L2))))))) (fun k => rfl) ?_
  obtain ⟨b0, h0, s0⟩ := QGp.large_ev a0 L0
  obtain ⟨b1, h1, s1⟩ := QGp.large_ev a1 L1
  obtain ⟨b2, h2, s2⟩ := QGp.large_ev a2 L2
  have tr : Ev (fun k => galoislaw27_CosetDoubles.j0 k true a0 L0 a1 L1 a2 L2) true := du_j0 a0 L0 a1 L1 a2 L2 true (fun h => by cases h) (fun h => by cases h) (fun h => by cases h)
  refine Ev.bind h0 ?_
  cases b0 with
  | true => simp only [if_true]; exact tr
  | false =>
    simp only [Bool.false_eq_true, if_false]
    refine Ev.bind h1 ?_
    cases b1 with
    | true => simp only [if_true]; exact tr
    | false =>
      simp only [Bool.false_eq_true, if_false]
      refine Ev.bind h2 ?_
      exact du_j0 a0 L0 a1 L1 a2 L2 b2 (fun _ => s0 rfl) (fun _ => s1 rfl) (fun h => s2 h)
end Go.Proofs.Ytaaaljifclecnaa.Pure
