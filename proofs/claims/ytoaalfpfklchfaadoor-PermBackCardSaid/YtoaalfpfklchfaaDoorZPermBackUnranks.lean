/- The permutation with a rank. Plain: no program in sight. -/
import Derived.Test.YtoaalfpfklchfaaDoorZPermBackRanks
import Derived.Test.YtoaalfpfklchfaaDoorZPermBackSigns
namespace Go.Proofs.YtoaalfpfklchfaaDoor.Plain
set_option linter.unusedVariables false
set_option linter.unusedSimpArgs false
open Go.RowKit Go.Proofs.YtoaalfpfklchfaaDoorW.PrintWords
/-- The members of a list, in the order with the rank k. -/
def unr : Nat → List Int → Nat → List Int
  | 0, _, _ => []
  | m + 1, rest, k => rest.getD (k / fact m) 0 :: unr m (rest.take (k / fact m) ++ rest.drop (k / fact m + 1)) (k % fact m)
theorem below_perm (x : Int) {l m : List Int} (h : l.Perm m) : below x l = below x m := (h.filter _).length_eq
theorem below_all {x : Int} {l : List Int} (h : ∀ y ∈ l, y < x) : below x l = l.length := by
  unfold below
  rw [List.filter_eq_self.2 fun y hy => decide_eq_true (h y hy)]
theorem below_none {x : Int} {l : List Int} (h : ∀ y ∈ l, x ≤ y) : below x l = 0 := by
  unfold below
  rw [List.filter_eq_nil_iff.2 fun y hy hc => by have := of_decide_eq_true hc; have := h y hy; omega]
  rfl
theorem sorted_parts {rest : List Int} (hs : rest.Pairwise (· < ·)) {d : Nat} (hd : d < rest.length) : rest = rest.take d ++ rest[d] :: rest.drop (d + 1) ∧ (∀ y ∈ rest.take d, y < rest[d]) ∧ (∀ y ∈ rest.drop (d + 1), rest[d] < y) := by
  have e : rest = rest.take d ++ rest[d] :: rest.drop (d + 1) := by
    rw [← List.drop_eq_getElem_cons hd, List.take_append_drop]
  have h := hs
  rw [e, List.pairwise_append, List.pairwise_cons] at h
  exact ⟨e, fun y hy => h.2.2 y hy _ (List.mem_cons_self ..), h.2.1.1⟩
theorem below_at {rest : List Int} (hs : rest.Pairwise (· < ·)) {d : Nat} (hd : d < rest.length) : below rest[d] (rest.take d ++ rest.drop (d + 1)) = d := by
  obtain ⟨_, h1, h2⟩ := sorted_parts hs hd
  rw [below_append, below_all h1, below_none fun y hy => by have := h2 y hy; omega, List.length_take]
  omega
theorem sorted_cut {rest : List Int} (hs : rest.Pairwise (· < ·)) (d : Nat) : (rest.take d ++ rest.drop (d + 1)).Pairwise (· < ·) := by
  refine hs.sublist ?_
  rw [← List.eraseIdx_eq_take_drop_succ]
  exact List.eraseIdx_sublist ..
theorem cut_perm {rest : List Int} {d : Nat} (hd : d < rest.length) : (rest[d] :: (rest.take d ++ rest.drop (d + 1))).Perm rest := by
  have e : rest = rest.take d ++ rest[d] :: rest.drop (d + 1) := by
    rw [← List.drop_eq_getElem_cons hd, List.take_append_drop]
  conv => rhs; rw [e]
  exact List.perm_middle.symm
theorem cut_length {rest : List Int} {d m : Nat} (hm : rest.length = m + 1) (hd : d < rest.length) : (rest.take d ++ rest.drop (d + 1)).length = m := by
  rw [List.length_append, List.length_take, List.length_drop]; omega
theorem div_fact {k m : Nat} (h : k < fact (m + 1)) : k / fact m < m + 1 := Nat.div_lt_of_lt_mul (by rw [Nat.mul_comm]; exact h)
theorem unr_perm : ∀ (m : Nat) (rest : List Int) (k : Nat), rest.length = m → k < fact m → (unr m rest k).Perm rest
  | 0, rest, k, hm, _ => by rw [List.length_eq_zero_iff.1 hm]; exact .refl _
  | m + 1, rest, k, hm, hk => by
    have hd : k / fact m < rest.length := by rw [hm]; exact div_fact hk
    have ih := unr_perm m (rest.take (k / fact m) ++ rest.drop (k / fact m + 1)) (k % fact m) (cut_length hm hd) (Nat.mod_lt _ (fact_pos m))
    have e : rest.getD (k / fact m) 0 = rest[k / fact m] := by rw [List.getD_eq_getElem?_getD, List.getElem?_eq_getElem hd]; rfl
    show (rest.getD (k / fact m) 0 :: _).Perm rest
    rw [e]
    exact (List.Perm.cons _ ih).trans (cut_perm hd)
theorem unr_length (m : Nat) (rest : List Int) (k : Nat) (hm : rest.length = m) (hk : k < fact m) : (unr m rest k).length = m := by rw [(unr_perm m rest k hm hk).length_eq, hm]
theorem rk_unr : ∀ (m : Nat) (rest : List Int) (k : Nat), rest.length = m → k < fact m → rest.Pairwise (· < ·) → rk (unr m rest k) = k
  | 0, rest, k, hm, hk, _ => by
    have : k = 0 := by have : k < 1 := hk; omega
    rw [this]; rfl
  | m + 1, rest, k, hm, hk, hs => by
    have hd : k / fact m < rest.length := by rw [hm]; exact div_fact hk
    have hl := cut_length hm hd
    have hmod := Nat.mod_lt k (fact_pos m)
    have ih := rk_unr m _ (k % fact m) hl hmod (sorted_cut hs _)
    have hp := unr_perm m _ (k % fact m) hl hmod
    have e : rest.getD (k / fact m) 0 = rest[k / fact m] := by rw [List.getD_eq_getElem?_getD, List.getElem?_eq_getElem hd]; rfl
    show below (rest.getD (k / fact m) 0) (unr m _ (k % fact m)) * fact (unr m _ (k % fact m)).length + rk (unr m _ (k % fact m)) = k
    rw [ih, e, below_perm _ hp, below_at hs hd, hp.length_eq, hl, Nat.mul_comm]
    exact Nat.div_add_mod k (fact m)
theorem unr_rk : ∀ (l rest : List Int), l.Perm rest → rest.Pairwise (· < ·) → unr l.length rest (rk l) = l
  | [], _, _, _ => rfl
  | x :: l, rest, hp, hs => by
    have hlt := rk_lt l
    have hf := fact_pos l.length
    have e1 : (below x l * fact l.length + rk l) / fact l.length = below x l := by
      rw [Nat.mul_comm, Nat.mul_add_div hf, Nat.div_eq_of_lt hlt, Nat.add_zero]
    have e2 : (below x l * fact l.length + rk l) % fact l.length = rk l := by
      rw [Nat.mul_comm, Nat.mul_add_mod, Nat.mod_eq_of_lt hlt]
    have hm : rest.length = l.length + 1 := by rw [← hp.length_eq, List.length_cons]
    obtain ⟨d, hd, hx⟩ := List.getElem_of_mem (hp.mem_iff.1 (List.mem_cons_self ..))
    have hperm : l.Perm (rest.take d ++ rest.drop (d + 1)) := by
      have := hp.trans (cut_perm hd).symm
      rw [hx] at this
      exact List.Perm.cons_inv this
    have hb : below x l = d := by rw [below_perm x hperm, ← hx, below_at hs hd]
    show rest.getD ((below x l * fact l.length + rk l) / fact l.length) 0 :: unr l.length (rest.take ((below x l * fact l.length + rk l) / fact l.length) ++ rest.drop ((below x l * fact l.length + rk l) / fact l.length + 1)) ((below x l * fact l.length + rk l) % fact l.length) = x :: l
    rw [e1, e2, hb, unr_rk l _ hperm (sorted_cut hs d), List.getD_eq_getElem?_getD, List.getElem?_eq_getElem hd, hx]
    rfl
theorem id_sorted (n : Nat) : (lf (fun i => i) n).Pairwise (· < ·) := by
  unfold lf
  rw [List.pairwise_map]
  exact List.Pairwise.imp (fun h => Int.ofNat_lt.2 h) List.pairwise_lt_range
theorem chk_unr {n k : Nat} (hn : n ≤ 20) (hk : k < fact n) : chk (unr n (lf (fun i => i) n) k) = 0 := by
  have hp := unr_perm n (lf (fun i => i) n) k (lf_length _ _) hk
  have hl : (unr n (lf (fun i => i) n) k).length = n := unr_length _ _ _ (lf_length _ _) hk
  rw [chk_zero]
  refine ⟨by omega, fun x hx => ?_, hp.nodup_iff.2 (lf_perm (Bij.id n)).2⟩
  rw [hl]
  exact (mem_lf (Bij.id n) x).1 (hp.mem_iff.1 hx)
/-- What is not used yet. -/
def restF : List Bool → Nat → List Nat
  | [], _ => []
  | b :: bs, j => if b = true then restF bs (j + 1) else j :: restF bs (j + 1)
theorem restF_pick : ∀ (u : List Bool) (j d : Nat) (hd : d < (restF u j).length), j ≤ (restF u j)[d] ∧ (restF u j)[d] < j + u.length ∧ restF (u.set ((restF u j)[d] - j) true) j = (restF u j).take d ++ (restF u j).drop (d + 1)
  | [], j, d, hd => absurd hd (by simp [restF])
  | b :: bs, j, d, hd => by
    cases b with
    | true =>
      have e : restF (true :: bs) j = restF bs (j + 1) := by simp [restF]
      have hd' : d < (restF bs (j + 1)).length := by rwa [e] at hd
      obtain ⟨h1, h2, h3⟩ := restF_pick bs (j + 1) d hd'
      simp only [e]
      refine ⟨by omega, by rw [List.length_cons]; omega, ?_⟩
      rw [show (restF bs (j + 1))[d] - j = ((restF bs (j + 1))[d] - (j + 1)) + 1 by omega, List.set_cons_succ]
      simp only [restF, if_true]
      exact h3
    | false =>
      have e : restF (false :: bs) j = j :: restF bs (j + 1) := by simp [restF]
      cases d with
      | zero =>
        simp only [e, List.getElem_cons_zero, Nat.sub_self, List.set_cons_zero]
        refine ⟨Nat.le_refl _, by rw [List.length_cons]; omega, ?_⟩
        simp [restF]
      | succ d =>
        have hd' : d < (restF bs (j + 1)).length := by rw [e, List.length_cons] at hd; omega
        obtain ⟨h1, h2, h3⟩ := restF_pick bs (j + 1) d hd'
        simp only [e, List.getElem_cons_succ]
        refine ⟨by omega, by rw [List.length_cons]; omega, ?_⟩
        rw [show (restF bs (j + 1))[d] - j = ((restF bs (j + 1))[d] - (j + 1)) + 1 by omega, List.set_cons_succ]
        simp only [restF, Bool.false_eq_true, if_false, List.take_succ_cons, List.drop_succ_cons, List.cons_append]
        rw [h3]
theorem restF_false (n : Nat) : ∀ j, restF (List.replicate n false) j = List.range' j n := by
  induction n with
  | zero => intro j; rfl
  | succ n ih =>
    intro j
    rw [List.replicate_succ]
    simp only [restF, Bool.false_eq_true, if_false]
    rw [ih, List.range'_succ]
theorem restF_start (n : Nat) : ints (restF (List.replicate n false) 0) = lf (fun i => i) n := by
  rw [restF_false, ← List.range_eq_range']
  rfl
end Go.Proofs.YtoaalfpfklchfaaDoor.Plain
