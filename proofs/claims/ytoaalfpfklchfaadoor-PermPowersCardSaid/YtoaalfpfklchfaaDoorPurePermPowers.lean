/- PermPowers: for every list of at most 40 points that is a permutation, and all exponents m and n: powers multiply by the sum of their exponents, the power with the order as exponent is the identity, and no power with a smaller positive exponent is. -/
import Derived.Test.YtoaalfpfklchfaaDoorPPermPowersx4
import Derived.Test.YtoaalfpfklchfaaDoorPPermPowersx5
import Derived.Test.YtoaalfpfklchfaaDoorQPermPowers
namespace Go.Proofs.YtoaalfpfklchfaaDoor.Pure
open Go.RowKit Go.Proofs.YtoaalfpfklchfaaDoor.PPermPowers Go.Proofs.YtoaalfpfklchfaaDoorW.PrintWords Go.Proofs.YtoaalfpfklchfaaDoorW.PrintLast Go.Proofs.YtoaalfpfklchfaaDoor.Plain Go.Proofs.YtoaalfpfklchfaaDoor.QPermPowers

theorem it_mod_ord {g : Nat → Nat} {n : Nat} (h : Bij n g) {i : Nat} (hi : i < n) {a b : Nat} (e : a % ord g n = b % ord g n) : it g a i = it g b i := by
  have hf := (h.ord_dvd (ord g n)).1 (Nat.dvd_refl _) i hi
  rw [it_mod hf a, it_mod hf b, e]
theorem exp_add (m n : Int) (o : Nat) (ho : 0 < o) : ((m % (o : Int)).toNat + (n % (o : Int)).toNat) % o = ((m + n) % (o : Int)).toNat % o := by
  have h1 := Int.emod_nonneg m (by omega : (o : Int) ≠ 0)
  have h2 := Int.emod_nonneg n (by omega : (o : Int) ≠ 0)
  have h3 := Int.emod_nonneg (m + n) (by omega : (o : Int) ≠ 0)
  have e : ((((m % (o : Int)).toNat + (n % (o : Int)).toNat) % o : Nat) : Int) = ((((m + n) % (o : Int)).toNat % o : Nat) : Int) := by
    rw [Int.natCast_emod, Int.natCast_emod, Int.natCast_add, Int.toNat_of_nonneg h1, Int.toNat_of_nonneg h2, Int.toNat_of_nonneg h3, Int.emod_emod, Int.emod_add_emod, Int.add_emod_emod]
  exact Int.ofNat.inj e
theorem PermPowers : galoislaw22_PermPowers.Pure := by
  intro l m n _ _ _ hm hn
  have hlo : IntKind.i16.min = -32768 := by decide
  have hhi : IntKind.i16.max = 32767 := by decide
  have hm' : -32768 ≤ m ∧ m ≤ 32767 := by simpa [Lit.wf, hlo, hhi] using hm
  have hn' : -32768 ≤ n ∧ n ≤ 32767 := by simpa [Lit.wf, hlo, hhi] using hn
  apply Ev.rounds
  unfold galoislaw22_PermPowers.f
  refine Ev.bind galoislaw22_awake.ev ?_
  simp only [if_true]
  have early : Ev (fun k => galoislaw22_PermPowers.j0 k l m n true) true := by
    refine Ev.step (f := fun k => (galoislaw22_awake.f k).bind fun t => some t) (fun k => ?_) (Ev.bind galoislaw22_awake.ev (Ev.now _))
    simp only [galoislaw22_PermPowers.j0, if_true]
  refine Ev.bind (galoislaw22_few.ev [l] (by simp)) ?_
  by_cases hf : l.length ≤ 40
  · simp only [List.all_cons, List.all_nil, decide_eq_true hf, Bool.and_true, if_true]
    refine Ev.bind (galoisref22_Check.ev l) ?_
    by_cases hc : chk l = 0
    · simp only [hc, bne_self_eq_false]
      obtain ⟨hl, hb, el⟩ := of_chk hc
      generalize hg : gf l = g at *
      generalize hk : l.length = N at *
      subst el
      have ho := ord_pos g N
      have hs : ord g N ≤ 232792560 := Nat.le_of_dvd (by decide) (hb.ord_small hl)
      have wm : wrap64 m = m := w64_small (by omega) (by omega)
      have wn : wrap64 n = n := w64_small (by omega) (by omega)
      have wmn : wrap64 (m + n) = m + n := w64_small (by omega) (by omega)
      have bm := hb.it (m % ((ord g N : Nat) : Int)).toNat
      have bn := hb.it (n % ((ord g N : Nat) : Int)).toNat
      refine Ev.step (fun k => by simp only [galoislaw22_PermPowers.j0, Bool.false_eq_true, if_false, wm, wn, wmn]; rfl) ?_
      refine Ev.bind (perm_Pow.ev g N hb hl m) (Ev.bind (perm_Pow.ev g N hb hl n) (Ev.bind (perm_Mul.ev_lf _ _ N bm bn hl) (Ev.bind (perm_Pow.ev g N hb hl (m + n)) (Ev.bind (perm_Order.ev g N hb hl) (Ev.bind (a := (lf (fun i => i) N, 0)) ?_ ?_)))))
      · simp only [lf_length]
        exact perm_Identity.ev N hl
      · simp only [if_true]
        have same : lf (fun i => it g (n % ((ord g N : Nat) : Int)).toNat (it g (m % ((ord g N : Nat) : Int)).toNat i)) N = lf (it g ((m + n) % ((ord g N : Nat) : Int)).toNat) N :=
          lf_congr fun i hi => by rw [← it_add]; exact it_mod_ord hb hi (exp_add m n _ ho)
        refine Ev.bind (galoisref22_Same.ev _ _ (by rw [lf_length]; omega)) ?_
        simp only [decide_eq_true same, if_true]
        have hlt : ¬ (((ord g N : Nat) : Int) < 1) := by omega
        simp only [decide_eq_false hlt]
        refine Ev.step (fun k => by simp only [galoislaw22_PermPowers.j1, Bool.false_eq_true, if_false, wm]; rfl) ?_
        refine Ev.bind (perm_Pow.ev g N hb hl _) ?_
        simp only [if_true]
        have one : lf (it g (((ord g N : Nat) : Int) % ((ord g N : Nat) : Int)).toNat) N = lf (fun i => i) N := by
          rw [Int.emod_self]; rfl
        refine Ev.bind (galoisref22_Same.ev _ _ (by rw [lf_length]; omega)) ?_
        simp only [decide_eq_true one, if_true]
        by_cases h1 : m < 1
        · simp only [if_pos h1]; exact Ev.now _
        · by_cases h2 : m ≥ ((ord g N : Nat) : Int)
          · simp only [if_neg h1, if_pos h2]; exact Ev.now _
          · simp only [if_neg h1, if_neg h2]
            have ne : ¬ lf (it g (m % ((ord g N : Nat) : Int)).toNat) N = lf (fun i => i) N := by
              intro e
              have hd := (hb.ord_dvd _).2 (lf_inj e)
              rw [Int.emod_eq_of_lt (by omega) (by omega)] at hd
              have := Nat.le_of_dvd (by omega) hd
              omega
            refine Ev.bind (galoisref22_Same.ev _ _ (by rw [lf_length]; omega)) ?_
            simp only [decide_eq_false ne]
            exact Ev.now _
    · rw [show (chk l != 0) = true from bne_iff_ne.2 hc]
      exact early
  · simp only [List.all_cons, List.all_nil, decide_eq_false hf, Bool.false_and, Bool.false_eq_true, if_false]
    exact early

end Go.Proofs.YtoaalfpfklchfaaDoor.Pure
