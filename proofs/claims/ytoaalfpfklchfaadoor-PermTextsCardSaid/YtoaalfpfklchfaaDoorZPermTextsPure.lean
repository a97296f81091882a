/- PermTexts: for every whole number n, every text of at most 200 bytes, or of more than 4096, and every list of at most 40 points: the text is read as the reference reads it, and the list is written as the reference writes it, or both have the reference's error. -/
import Derived.Test.YtoaalfpfklchfaaDoorZPermTextsPx11
import Derived.Test.YtoaalfpfklchfaaDoorZPermTextsPx11
import Derived.Test.YtoaalfpfklchfaaDoorZPermTextsQ
namespace Go.Proofs.YtoaalfpfklchfaaDoor.Pure
open Go.RowKit Go.Proofs.YtoaalfpfklchfaaDoor.PPermTexts Go.Proofs.YtoaalfpfklchfaaDoorW.PrintWords Go.Proofs.YtoaalfpfklchfaaDoorW.PrintLast Go.Proofs.YtoaalfpfklchfaaDoor.Plain Go.Proofs.YtoaalfpfklchfaaDoor.QPermTexts
set_option linter.unusedVariables false
set_option linter.unusedSimpArgs false

theorem parseS_length (n : Int) (s : ByteArray) : (parseS n s).1.length ≤ 40 := by
  unfold parseS
  split
  · split
    · exact Nat.zero_le _
    · split
      · exact fromC_length ..
      · exact Nat.zero_le _
  · exact Nat.zero_le _
theorem texts_j1 (l : List Int) : Ev (fun q => galoislaw22_PermTexts.j1 q l false) true := by
  by_cases hc : chk l = 0
  · obtain ⟨hl, hb, el⟩ := of_chk hc
    generalize gf l = g at *
    generalize l.length = N at *
    subst el
    refine Ev.step (fun q => by simp only [galoislaw22_PermTexts.j1, Bool.false_eq_true, if_false]; rfl) ?_
    refine Ev.bind (perm_Format.ev g N hb hl) (Ev.bind (galoisref22_Check.ev (lf g N)) ?_)
    simp only [hc, if_true]
    refine Ev.bind (galoisref22_Format.ev g N hb hl) ?_
    simp only [beq_self_eq_true]
    exact Ev.now _
  · refine Ev.step (fun q => by simp only [galoislaw22_PermTexts.j1, Bool.false_eq_true, if_false]; rfl) ?_
    refine Ev.bind (perm_Format.ev_bad l hc) (Ev.bind (galoisref22_Check.ev l) ?_)
    simp only [if_neg hc, if_true]
    rw [show ((⟨#[]⟩ : ByteArray).toList == ([] : List UInt8)) = true from beq_iff_eq.2 ((toList_nil _).2 rfl)]
    exact Ev.now _
theorem PermTexts : galoislaw22_PermTexts.Pure := by
  intro n s l _ _ _ _ _
  apply Ev.rounds
  unfold galoislaw22_PermTexts.f
  refine Ev.bind galoislaw22_awake.ev ?_
  simp only [if_true]
  have early : Ev (fun k => galoislaw22_PermTexts.j0 k n s l true) true := by
    refine Ev.step (f := fun k => (galoislaw22_awake.f k).bind fun t => some t) (fun k => ?_) (Ev.bind galoislaw22_awake.ev (Ev.now _))
    simp only [galoislaw22_PermTexts.j0, if_true]
  have main : (s.size ≤ 200 ∨ 4096 < s.size) → Ev (fun k => galoislaw22_PermTexts.j0 k n s l false) true := by
    intro hs
    refine Ev.step (fun q => by simp only [galoislaw22_PermTexts.j0, Bool.false_eq_true, if_false]; rfl) ?_
    refine Ev.bind (perm_Parse.ev n s hs) (Ev.bind (galoisref22_Parse.ev n s hs) ?_)
    simp only [if_true]
    refine Ev.bind (galoisref22_Same.ev _ _ (by have := parseS_length n s; omega)) ?_
    simp only [decide_true, Bool.not_true]
    exact texts_j1 l
  refine Ev.bind (galoislaw22_few.ev [l] (by simp)) ?_
  by_cases hf : l.length ≤ 40
  · simp only [List.all_cons, List.all_nil, decide_eq_true hf, Bool.and_true, if_true]
    by_cases h2 : 200 < s.size
    · simp only [if_pos (by omega : (s.size : Int) > 200)]
      by_cases h4 : s.size ≤ 4096
      · simp only [if_pos (by omega : (s.size : Int) ≤ 4096)]
        exact early
      · simp only [if_neg (by omega : ¬ (s.size : Int) ≤ 4096)]
        by_cases h8 : 8192 < s.size
        · simp only [decide_eq_true (by omega : (s.size : Int) > 8192)]
          exact early
        · simp only [decide_eq_false (by omega : ¬ (s.size : Int) > 8192)]
          exact main (.inr (by omega))
    · simp only [if_neg (by omega : ¬ (s.size : Int) > 200), decide_eq_false (by omega : ¬ (s.size : Int) > 8192)]
      exact main (.inl (by omega))
  · simp only [List.all_cons, List.all_nil, decide_eq_false hf, Bool.false_and, Bool.false_eq_true, if_false]
    exact early

end Go.Proofs.YtoaalfpfklchfaaDoor.Pure
