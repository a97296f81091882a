/- TopZolotarev: for all numbers k (below 256) and a (below 65536): with p the odd prime of the number k mod 7 and b = a mod (p - 1) + 1, the permutation x -> b x mod p has the sign that Legendre's symbol, Jacobi's symbol and Gauss's lemma give, its order is that of b modulo p, and is even where the sign is not 1. Only 75 pairs p, b are to be looked at: each is reckoned. -/
import Derived.Test.YtobbdbkcailfkaaPTopZolotarevx4
import Derived.Test.YtobbdbkcailfkaaPTopZolotarevx5
import Derived.Test.YtobbdbkcailfkaaPTopZolotarevx8
import Derived.Test.YtobbdbkcailfkaaQTopZolotarev
namespace Go.Proofs.Ytobbdbkcailfkaa.Pure
open Go.RowKit Go.Proofs.Ytobbdbkcailfkaa.PTopZolotarev Go.Proofs.YtobbdbkcailfkaaW.PrintWords Go.Proofs.YtobbdbkcailfkaaW.PrintLast Go.Proofs.Ytobbdbkcailfkaa.Plain Go.Proofs.Ytobbdbkcailfkaa.QTopZolotarev
set_option linter.unusedVariables false
set_option linter.unusedSimpArgs false

def zol_p (m : Nat) : Int := [3, 5, 7, 11, 13, 17, 19].getD m 0
theorem zol_sums : Ev (fun k => galoistop_groupSums.f k) true := Ev.of galoistop_groupSums.mono (k := 60) (by decide +kernel)
theorem zol_odd : ∀ m, m < 7 → galoistop_groupOdd.f 60 ((m : Nat) : Int) = some (zol_p m) := by decide +kernel
theorem zol_all : ∀ m, m < 7 → ∀ r, r < 18 → ((r : Nat) : Int) < zol_p m - 1 → galoistop_TopZolotarev.l0 150 (zol_p m) (((r : Nat) : Int) + 1) (List.replicate (zol_p m).toNat 0) 0 = some true := by decide +kernel
theorem TopZolotarev : galoistop_TopZolotarev.Pure := by
  intro a0 a1 h0 h1
  have e0 : IntKind.u8.min = 0 := by decide
  have e1 : IntKind.u16.min = 0 := by decide
  have e2 : IntKind.u8.max = 255 := by decide
  have e3 : IntKind.u16.max = 65535 := by decide
  have b0 : 0 ≤ a0 ∧ a0 ≤ 255 := by simpa [Lit.wf, e0, e2] using h0
  have b1 : 0 ≤ a1 ∧ a1 ≤ 65535 := by simpa [Lit.wf, e1, e3] using h1
  clear h0 h1 e0 e1 e2 e3
  obtain ⟨m, r, hm, hm7, hr⟩ : ∃ m r : Nat, Int.tmod a0 7 = (m : Int) ∧ m < 7 ∧ a1 = (r : Int) := by
    obtain ⟨k, rfl⟩ : ∃ k : Nat, a0 = (k : Int) := ⟨a0.toNat, by omega⟩
    exact ⟨k % 7, a1.toNat, (Int.ofNat_tmod k 7).symm, Nat.mod_lt _ (by decide), by omega⟩
  subst hr
  apply Ev.rounds
  unfold galoistop_TopZolotarev.f
  refine Ev.bind zol_sums ?_
  simp only [if_true, hm]
  refine Ev.bind (Ev.of (fun k => galoistop_groupOdd.mono _ k) (zol_odd m hm7)) ?_
  have wr : wrap64 (r : Int) = (r : Int) := w64_small (by omega) (by omega)
  have key : ∀ P : Nat, zol_p m = ((P + 1 : Nat) : Int) → 0 < P → P ≤ 18 → Ev (fun k => if (wrap64 (zol_p m - 1)) = 0 then (none : Option Bool) else (if 0 ≤ zol_p m then (if (zol_p m : Int).toNat ≤ 35184372088832 then (galoistop_TopZolotarev.l0 k (zol_p m) (wrap64 ((Int.tmod (wrap64 ((r : Nat) : Int)) (wrap64 (zol_p m - 1))) + 1)) (List.replicate (zol_p m : Int).toNat 0) 0) else (none)) else (none))) true := by
    intro P hP hP0 hP18
    have w1 : wrap64 (zol_p m - 1) = (P : Int) := by rw [hP, w64_small (by omega) (by omega)]; omega
    have hlt := Nat.mod_lt r hP0
    have hb := zol_all m hm7 (r % P) (by omega) (by rw [hP]; omega)
    have w2 : wrap64 (Int.tmod (r : Int) (P : Int) + 1) = ((r % P : Nat) : Int) + 1 := by
      rw [← Int.ofNat_tmod]
      generalize r % P = x at *
      exact w64_small (by omega) (by omega)
    rw [w1, wr, w2]
    simp only [if_neg (by omega : ¬ ((P : Nat) : Int) = 0), if_pos (by rw [hP]; omega : 0 ≤ zol_p m), if_pos (by rw [hP]; omega : (zol_p m : Int).toNat ≤ 35184372088832)]
    exact Ev.of (fun k => galoistop_TopZolotarev.mono_l k _ _ _ _) hb
  have hc : m = 0 ∨ m = 1 ∨ m = 2 ∨ m = 3 ∨ m = 4 ∨ m = 5 ∨ m = 6 := by omega
  rcases hc with rfl | rfl | rfl | rfl | rfl | rfl | rfl
  · exact key 2 rfl (by decide) (by decide)
  · exact key 4 rfl (by decide) (by decide)
  · exact key 6 rfl (by decide) (by decide)
  · exact key 10 rfl (by decide) (by decide)
  · exact key 12 rfl (by decide) (by decide)
  · exact key 16 rfl (by decide) (by decide)
  · exact key 18 rfl (by decide) (by decide)

end Go.Proofs.Ytobbdbkcailfkaa.Pure
