/- PermBack: for all lists a, b of at most 40 points that are permutations of one degree: a is found again from its cycles, its rank and its text, and a and b are compared as their ranks. -/
import Derived.Test.YtoaalfpfklchfaaDoorZPermBackPx2
import Derived.Test.YtoaalfpfklchfaaDoorZPermBackPx4
import Derived.Test.YtoaalfpfklchfaaDoorZPermBackPx9
import Derived.Test.YtoaalfpfklchfaaDoorZPermBackQ
namespace Go.Proofs.YtoaalfpfklchfaaDoor.Pure
open Go.RowKit Go.Proofs.YtoaalfpfklchfaaDoor.PPermBack Go.Proofs.YtoaalfpfklchfaaDoorW.PrintWords Go.Proofs.YtoaalfpfklchfaaDoorW.PrintLast Go.Proofs.YtoaalfpfklchfaaDoor.Plain Go.Proofs.YtoaalfpfklchfaaDoor.QPermBack
set_option linter.unusedVariables false
set_option linter.unusedSimpArgs false

theorem back_j2 (a b : List Int) (ha : chk a = 0) (hb : chk b = 0) (h2 : chk2 a b = 0) (hl : a.length = b.length) (hp : a.Perm b) : Ev (fun q => galoislaw22_PermBack.j2 q a b ((rk a : Nat) : Int) false) true := by
  obtain ⟨hn, _, _⟩ := of_chk ha
  obtain ⟨c1, c2, c3⟩ := cmp_rk a b hp
  refine Ev.step (fun q => by simp only [galoislaw22_PermBack.j2, Bool.false_eq_true, if_false]; rfl) ?_
  refine Ev.bind (perm_Rank.ev b hb) (Ev.bind (perm_Compare.ev a b h2 hl hn) ?_)
  have e1 : (decide (cmpL a b < 0) == decide (((rk a : Nat) : Int) < ((rk b : Nat) : Int))) = true := by
    rw [beq_iff_eq, decide_eq_decide, c1]
    omega
  have e2 : ((cmpL a b == 0) == (((rk a : Nat) : Int) == ((rk b : Nat) : Int))) = true := by
    rw [beq_iff_eq, Bool.eq_iff_iff, beq_iff_eq, beq_iff_eq, c2]
    omega
  simp only [if_true, e1, e2]
  refine Ev.bind (galoisref22_Same.ev a b (by omega)) ?_
  have e3 : ((cmpL a b == 0) == decide (a = b)) = true := by
    rw [beq_iff_eq, Bool.eq_iff_iff, beq_iff_eq, decide_eq_true_iff]
    exact c3
  simp only [e3]
  exact Ev.now _
theorem PermBack : galoislaw22_PermBack.Pure := by
  intro a b _ _ _ _ _ _
  apply Ev.rounds
  unfold galoislaw22_PermBack.f
  refine Ev.bind galoislaw22_awake.ev ?_
  simp only [if_true]
  refine Ev.bind (galoislaw22_right.ev a b) ?_
  by_cases hf : a.length ≤ 40 ∧ b.length ≤ 40 ∧ chk2 a b = 0
  · rw [decide_eq_true hf, Bool.not_true]
    have h2 := hf.2.2
    obtain ⟨ha, hb, hl⟩ := chk2_zero h2
    obtain ⟨hn, bij, el⟩ := of_chk ha
    obtain ⟨hn2, bij2, el2⟩ := of_chk hb
    have pa : a.Perm (lf (fun i => i) a.length) := by
      have := lf_perm_id bij
      rwa [← el] at this
    have pb : b.Perm (lf (fun i => i) b.length) := by
      have := lf_perm_id bij2
      rwa [← el2] at this
    have hp : a.Perm b := pa.trans (by rw [hl]; exact pb.symm)
    have hrk := rk_lt a
    have hun : unr a.length (lf (fun i => i) a.length) (rk a) = a := unr_rk a _ pa (id_sorted _)
    have last := back_j2 a b ha hb h2 hl hp
    have same : Ev (fun q => galoisref22_Same.f q a a) (decide (a = a)) := galoisref22_Same.ev a a (by omega)
    rw [decide_eq_true rfl] at same
    have fc := perm_FromCycles.ev (a.length : Int) (cycI (gf a) a.length a.length) (by have := cyc_len (gf a) a.length a.length; unfold cycI; rw [List.length_map]; omega) (fun c hc => by have := cycI_short bij hn c hc; omega)
    rw [fromC_cyc bij hn, ← el] at fc
    have ur := perm_Unrank.ev a.length hn (rk a) hrk
    rw [hun] at ur
    have fmsz : (fmtS (cycI (gf a) a.length a.length)).size ≤ 2000 ∨ 4096 < (fmtS (cycI (gf a) a.length a.length)).size := .inl (fmtS_small bij hn)
    have ps := perm_Parse.ev (a.length : Int) (fmtS (cycI (gf a) a.length a.length)) fmsz
    rw [parseS_fmt bij hn, ← el] at ps
    have cy := perm_Cycles.ev (gf a) a.length bij hn
    rw [← el] at cy
    have fm := perm_Format.ev (gf a) a.length bij hn
    rw [← el] at fm
    have rk_ := perm_Rank.ev a ha
    refine Ev.step (fun q => by simp only [galoislaw22_PermBack.j0, Bool.false_eq_true, if_false]; rfl) ?_
    refine Ev.bind cy (Ev.bind rk_ (Ev.bind fm ?_))
    simp only [if_true, bne_self_eq_false]
    refine Ev.step (fun q => by simp only [galoislaw22_PermBack.j1, Bool.false_eq_true, if_false]; rfl) ?_
    refine Ev.bind fc (Ev.bind ur (Ev.bind ps ?_))
    simp only [if_true]
    refine Ev.bind same ?_
    simp only [if_true]
    refine Ev.bind same ?_
    simp only [if_true]
    refine Ev.bind same ?_
    simp only [Bool.not_true]
    exact last
  · rw [decide_eq_false hf, Bool.not_false]
    refine Ev.step (f := fun k => (galoislaw22_awake.f k).bind fun t => some t) (fun k => ?_) (Ev.bind galoislaw22_awake.ev (Ev.now _))
    simp only [galoislaw22_PermBack.j0, if_true]

end Go.Proofs.YtoaalfpfklchfaaDoor.Pure
