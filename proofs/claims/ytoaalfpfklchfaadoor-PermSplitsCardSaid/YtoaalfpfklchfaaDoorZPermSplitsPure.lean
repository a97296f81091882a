/- PermSplits: for every list of at most 40 points that is a permutation, and every exponent n: each cycle of length l splits into gcd(l, n) cycles of length l / gcd(l, n) of the power, whose type falls; and the power has the order k / gcd(k, n). -/
import Derived.Test.YtoaalfpfklchfaaDoorZPermSplitsPx4
import Derived.Test.YtoaalfpfklchfaaDoorZPermSplitsPx5
import Derived.Test.YtoaalfpfklchfaaDoorZPermSplitsPx6
import Derived.Test.YtoaalfpfklchfaaDoorZPermSplitsQ
namespace Go.Proofs.YtoaalfpfklchfaaDoor.Pure
open Go.RowKit Go.Proofs.YtoaalfpfklchfaaDoor.PPermSplits Go.Proofs.YtoaalfpfklchfaaDoorW.PrintWords Go.Proofs.YtoaalfpfklchfaaDoorW.PrintLast Go.Proofs.YtoaalfpfklchfaaDoor.Plain Go.Proofs.YtoaalfpfklchfaaDoor.QPermSplits
set_option linter.unusedVariables false
set_option linter.unusedSimpArgs false

theorem splits_l2 (m k l : Int) (hk : 0 < k) (hk2 : k < 4611686018427387904) (hm : m.natAbs < 4611686018427387904) (wm : wrap64 m = m) (C : List Int) (hC : ∀ i : Nat, i < C.length → rd C (i : Int) = 0) (hn : C.length < 1000) : ∀ (d i : Nat), C.length - i = d → i ≤ C.length →
    Ev (fun q => galoislaw22_PermSplits.l2 q m k l C (i : Int)) (l == (((k.natAbs / Nat.gcd k.natAbs m.natAbs : Nat)) : Int)) := by
  intro d
  induction d with
  | zero =>
    intro i hd hi
    refine Ev.step (f := fun q => (galoislaw22_gcd.f q k m).bind fun t275 => (if t275 = 0 then (none) else (some (l == (wrap64 (Int.tdiv k t275)))))) (fun q => ?_) ?_
    · simp only [galoislaw22_PermSplits.l2]
      rw [if_neg (by omega), if_pos (by omega), wm]
    · refine Ev.bind (galoislaw22_gcd.ev k m (by omega) hm) ?_
      have hg : 0 < Nat.gcd k.natAbs m.natAbs := Nat.gcd_pos_of_pos_left _ (by omega)
      have e : wrap64 (Int.tdiv k ((Nat.gcd k.natAbs m.natAbs : Nat) : Int)) = (((k.natAbs / Nat.gcd k.natAbs m.natAbs : Nat)) : Int) := by
        obtain ⟨K, rfl⟩ : ∃ K : Nat, k = (K : Int) := ⟨k.toNat, by omega⟩
        show wrap64 (Int.tdiv ((K : Nat) : Int) ((Nat.gcd K m.natAbs : Nat) : Int)) = ((K / Nat.gcd K m.natAbs : Nat) : Int)
        have h3 := Nat.div_le_self K (Nat.gcd K m.natAbs)
        have h4 : (0 : Int) ≤ ((K / Nat.gcd K m.natAbs : Nat) : Int) := Int.natCast_nonneg _
        rw [← Int.ofNat_tdiv, w64_small (by omega) (by omega)]
      simp only [if_neg (by omega : ¬ ((Nat.gcd k.natAbs m.natAbs : Nat) : Int) = 0), e]
      exact Ev.now _
  | succ d ih =>
    intro i hd hi
    refine Ev.step (fun q => ?_) (ih (i + 1) (by omega) (by omega))
    simp only [galoislaw22_PermSplits.l2]
    rw [if_pos (by omega), if_pos (by omega), hC i (by omega), if_pos rfl, wrap_nat (by omega)]
theorem splits_l1 (a : List Int) (m k l : Int) (M : Nat) (U T : List Int) (R : Bool) (hUs : U.Pairwise (fun x y => y ≤ x)) (hU : ∀ x ∈ U, 1 ≤ x ∧ x ≤ (a.length : Int)) (hT : ∀ x ∈ T, 1 ≤ x ∧ x ≤ 20) (hTl : T.length ≤ 40) (hUl : U.length ≤ 40)
    (next : Ev (fun q => galoislaw22_PermSplits.l2 q m k l (splitC M a.length T U) 0) R) : ∀ (d i : Nat), U.length - i = d → i ≤ U.length →
    Ev (fun q => galoislaw22_PermSplits.l1 q a m U k l (splitC M a.length T (U.take i)) (i : Int)) R := by
  intro d
  induction d with
  | zero =>
    intro i hd hi
    rw [List.take_of_length_le (by omega)]
    refine Ev.step (fun q => ?_) next
    simp only [galoislaw22_PermSplits.l1]
    rw [if_neg (by omega)]
  | succ d ih =>
    intro i hd hi
    have hlt : i < U.length := by omega
    have hx := hU _ (List.getElem_mem hlt)
    obtain ⟨c, hc⟩ : ∃ c : Nat, U[i] = (c : Int) := ⟨U[i].toNat, by omega⟩
    have hb := splitC_bound M a.length T (U.take i) hT c (by omega)
    have hl2 : (U.take i).length ≤ 40 := by rw [List.length_take]; omega
    have hs := splitC_sub M a.length T (U.take i) c (by omega)
    have ht : U.take i ++ [(c : Int)] = U.take (i + 1) := by rw [← hc, List.take_append_getElem hlt]
    rw [ht] at hs
    refine Ev.step (fun q => ?_) (ih (i + 1) (by omega) (by omega))
    simp only [galoislaw22_PermSplits.l1]
    rw [if_pos (by omega), if_pos (by omega), rd_get U i hlt, if_neg (by omega), if_neg (by omega)]
    have inner : (if 0 ≤ U[i] then (if U[i] < ((splitC M a.length T (U.take i)).length : Int) then (galoislaw22_PermSplits.l1 q a m U k l ((splitC M a.length T (U.take i)).set (U[i] : Int).toNat (wrap64 ((rd (splitC M a.length T (U.take i)) U[i]) - 1))) (wrap64 ((i : Int) + 1))) else (none)) else (none)) = galoislaw22_PermSplits.l1 q a m U k l (splitC M a.length T (U.take (i + 1))) ((i + 1 : Nat) : Int) := by
      rw [if_pos (by omega), if_pos (by rw [splitC_length]; omega), hc, Int.toNat_natCast, w64_small (by omega) (by omega), hs, wrap_nat (by omega)]
    by_cases h0 : (i : Int) > 0
    · have e1 : wrap64 ((i : Int) - 1) = ((i - 1 : Nat) : Int) := by rw [w64_small (by omega) (by omega)]; omega
      have hle : U[i] ≤ U[i - 1] := by
        have := List.pairwise_iff_getElem.1 hUs (i - 1) i (by omega) hlt (by omega)
        exact this
      rw [if_pos h0, e1, if_pos (by omega), if_pos (by omega), rd_get U (i - 1) (by omega), if_neg (by omega)]
      exact inner
    · rw [if_neg h0]
      exact inner
theorem splits_l0 (a : List Int) (ha : a.length ≤ 20) (m k l : Int) (wm : wrap64 m = m) (hm : m.natAbs < 4611686018427387904) (U T : List Int) (R : Bool) (hT : ∀ x ∈ T, 1 ≤ x ∧ x ≤ (a.length : Int)) (hTl : T.length ≤ 40)
    (next : Ev (fun q => galoislaw22_PermSplits.l1 q a m U k l (splitC m.natAbs a.length T []) 0) R) : ∀ (d i : Nat), T.length - i = d → i ≤ T.length →
    Ev (fun q => galoislaw22_PermSplits.l0 q a m T U k l (splitC m.natAbs a.length (T.take i) []) (i : Int)) R := by
  intro d
  induction d with
  | zero =>
    intro i hd hi
    rw [List.take_of_length_le (by omega)]
    refine Ev.step (fun q => ?_) next
    simp only [galoislaw22_PermSplits.l0]
    rw [if_neg (by omega)]
  | succ d ih =>
    intro i hd hi
    have hlt : i < T.length := by omega
    have hx := hT _ (List.getElem_mem hlt)
    obtain ⟨x, hc⟩ : ∃ x : Nat, T[i] = (x : Int) := ⟨T[i].toNat, by omega⟩
    have hx' : 1 ≤ x ∧ x ≤ a.length := by omega
    have hl2 : (T.take i).length ≤ 40 := by rw [List.length_take]; omega
    have hT' : ∀ y ∈ T.take i, 1 ≤ y ∧ y ≤ 20 := fun y hy => by have := hT y (List.mem_of_mem_take hy); omega
    have hi1 : i < 1000 := by omega
    have head : ∀ q, galoislaw22_PermSplits.l0 (q + 1) a m T U k l (splitC m.natAbs a.length (T.take i) []) (i : Int) = (galoislaw22_gcd.f q (x : Int) m).bind fun t260 => (if t260 = 0 then (none) else (if 0 ≤ (wrap64 (Int.tdiv (x : Int) t260)) then (if (wrap64 (Int.tdiv (x : Int) t260)) < ((splitC m.natAbs a.length (T.take i) []).length : Int) then (galoislaw22_PermSplits.l0 q a m T U k l ((splitC m.natAbs a.length (T.take i) []).set ((wrap64 (Int.tdiv (x : Int) t260)) : Int).toNat (wrap64 ((rd (splitC m.natAbs a.length (T.take i) []) (wrap64 (Int.tdiv (x : Int) t260))) + t260))) (wrap64 ((i : Int) + 1))) else (none)) else (none))) := by
      intro q
      simp only [galoislaw22_PermSplits.l0]
      rw [if_pos (by omega), if_pos (by omega), rd_get T i hlt, if_neg (by omega), if_neg (by omega), hc, wm]
    have nx := ih (i + 1) (by omega) (by omega)
    have ev := galoislaw22_gcd.ev (x : Int) m (by omega) hm
    rw [Int.natAbs_natCast] at ev
    have ht : T.take i ++ [(x : Int)] = T.take (i + 1) := by rw [← hc, List.take_append_getElem hlt]
    have hle : x / Nat.gcd x m.natAbs ≤ a.length := Nat.le_trans (Nat.div_le_self ..) hx'.2
    have hb := splitC_bound m.natAbs a.length (T.take i) [] hT' (x / Nat.gcd x m.natAbs) hle
    have hs := splitC_add m.natAbs a.length (T.take i) (x : Int) (x / Nat.gcd x m.natAbs) (by rw [Int.toNat_natCast]) hle
    rw [Int.toNat_natCast, ht] at hs
    have hg : 0 < Nat.gcd x m.natAbs := Nat.gcd_pos_of_pos_left _ hx'.1
    have hg2 : Nat.gcd x m.natAbs ≤ x := Nat.le_of_dvd hx'.1 (Nat.gcd_dvd_left _ _)
    have e0 : Int.tdiv (x : Int) ((Nat.gcd x m.natAbs : Nat) : Int) = ((x / Nat.gcd x m.natAbs : Nat) : Int) := (Int.ofNat_tdiv _ _).symm
    refine Ev.step head (Ev.bind ev ?_)
    clear ev head ht hT' hx hT ih next hd hTl
    generalize Nat.gcd x m.natAbs = G at *
    generalize x / G = y at *
    have e : wrap64 (Int.tdiv (x : Int) (G : Int)) = (y : Int) := by
      rw [e0]
      clear hs hb nx e0
      rw [w64_small (by omega) (by omega)]
    have hG0 : ¬ (G : Int) = 0 := by clear hs hb nx e0 e; omega
    have hv : wrap64 (rd (splitC m.natAbs a.length (T.take i) []) (y : Int) + (G : Int)) = rd (splitC m.natAbs a.length (T.take i) []) (y : Int) + (G : Int) := by
      clear hs nx e0 e
      simp only [List.length_nil] at hb
      generalize rd (splitC m.natAbs a.length (T.take i) []) (y : Int) = V at *
      rw [w64_small (by omega) (by omega)]
    have hy : (y : Int) < ((splitC m.natAbs a.length (T.take i) []).length : Int) := by
      rw [splitC_length]
      clear hs hb nx e0 e hv
      omega
    have hy0 : (0 : Int) ≤ (y : Int) := Int.natCast_nonneg _
    simp only [if_neg hG0, e, if_pos hy0, if_pos hy, Int.toNat_natCast, hv, hs, wrap_nat (Nat.lt_trans hi1 (by decide : 1000 < 4611686018427387904))]
    exact nx
theorem PermSplits : galoislaw22_PermSplits.Pure := by
  intro l n _ _ _ hn
  have hlo : IntKind.i16.min = -32768 := by decide
  have hhi : IntKind.i16.max = 32767 := by decide
  have hn' : -32768 ≤ n ∧ n ≤ 32767 := by simpa [Lit.wf, hlo, hhi] using hn
  apply Ev.rounds
  unfold galoislaw22_PermSplits.f
  refine Ev.bind galoislaw22_awake.ev ?_
  simp only [if_true]
  have early : Ev (fun k => galoislaw22_PermSplits.j0 k l n true) true := by
    refine Ev.step (f := fun k => (galoislaw22_awake.f k).bind fun t => some t) (fun k => ?_) (Ev.bind galoislaw22_awake.ev (Ev.now _))
    simp only [galoislaw22_PermSplits.j0, if_true]
  refine Ev.bind (galoislaw22_few.ev [l] (by simp)) ?_
  by_cases hf : l.length ≤ 40
  · simp only [List.all_cons, List.all_nil, decide_eq_true hf, Bool.and_true, if_true]
    refine Ev.bind (galoisref22_Check.ev l) ?_
    by_cases hc : chk l = 0
    · simp only [hc, bne_self_eq_false]
      obtain ⟨hl, hb, el⟩ := of_chk hc
      generalize hg : gf l = g at *
      generalize hk : l.length = N at *
      subst el
      have ho := ord_pos g N
      have hs : ord g N ≤ 232792560 := Nat.le_of_dvd (by decide) (hb.ord_small hl)
      have wn : wrap64 n = n := w64_small (by omega) (by omega)
      have hk0 : (0 : Int) < ((ord g N : Nat) : Int) := by omega
      have hk2 : ((ord g N : Nat) : Int) < 4611686018427387904 := by omega
      have hm2 : n.natAbs < 4611686018427387904 := by omega
      have hN1 : N < 4611686018427387904 := by omega
      have c1 : (0 : Int) ≤ ((N + 1 : Nat) : Int) := by omega
      have c2 : N + 1 ≤ 35184372088832 := by omega
      have hLl : (lf g N).length ≤ 20 := by rw [lf_length]; exact hl
      generalize hE : (n % ((ord g N : Nat) : Int)).toNat = E
      have bn := hb.it E
      have len : ∀ f : Nat → Nat, Bij N f → (sortDesc (coll f N)).length ≤ 40 := by
        intro f hb'
        rw [((sortDesc_perm _).trans (coll_lens f N hb')).length_eq]
        unfold lens leasts
        rw [List.length_map]
        refine Nat.le_trans (List.length_filter_le _ _) ?_
        rw [List.length_range]
        exact Nat.le_trans hl (by decide)
      have mem : ∀ f : Nat → Nat, Bij N f → ∀ x ∈ sortDesc (coll f N), 1 ≤ x ∧ x ≤ ((lf g N).length : Int) := by
        intro f hb' x hx
        rw [lf_length]
        exact lens_mem hb' (((sortDesc_perm _).trans (coll_lens f N hb')).mem_iff.1 hx)
      refine Ev.step (fun k => by simp only [galoislaw22_PermSplits.j0, Bool.false_eq_true, if_false, wn]; rfl) ?_
      have p1 := perm_Pow.ev g N hb hl n
      rw [hE] at p1
      refine Ev.bind p1 (Ev.bind (perm_Type.ev g N hb hl) (Ev.bind (perm_Type.ev _ N bn hl) (Ev.bind (perm_Order.ev g N hb hl) (Ev.bind (perm_Order.ev _ N bn hl) ?_))))
      simp only [if_true, bne_self_eq_false]
      have w1 : wrap64 (((lf g N).length : Int) + 1) = ((N + 1 : Nat) : Int) := by rw [lf_length, wrap_nat hN1]
      refine Ev.step (f := fun q => galoislaw22_PermSplits.l0 q (lf g N) n (sortDesc (coll g N)) (sortDesc (coll (it g E) N)) ((ord g N : Nat) : Int) ((ord (it g E) N : Nat) : Int) (List.replicate (N + 1) 0) 0) (fun k => ?_) ?_
      · simp only [galoislaw22_PermSplits.j1, Bool.false_eq_true, if_false, w1, Int.toNat_natCast, if_pos c1, if_pos c2]
      · have z : List.replicate (N + 1) (0 : Int) = splitC n.natAbs (lf g N).length ((sortDesc (coll g N)).take 0) [] := by
          rw [lf_length, List.take_zero, splitC_nil]
        rw [z]
        refine splits_l0 (lf g N) hLl n _ _ wn hm2 _ _ true (mem g hb) (len g hb) ?_ _ 0 rfl (Nat.zero_le _)
        have z2 : splitC n.natAbs (lf g N).length (sortDesc (coll g N)) [] = splitC n.natAbs (lf g N).length (sortDesc (coll g N)) ((sortDesc (coll (it g E) N)).take 0) := by rw [List.take_zero]
        rw [z2]
        refine splits_l1 (lf g N) n _ _ n.natAbs _ _ true (sortDesc_sorted _) (mem _ bn) (fun x hx => ⟨(mem g hb x hx).1, Int.le_trans (mem g hb x hx).2 (Int.ofNat_le.2 hLl)⟩) (len g hb) (len _ bn) ?_ _ 0 rfl (Nat.zero_le _)
        have last := splits_l2 n ((ord g N : Nat) : Int) ((ord (it g E) N : Nat) : Int) hk0 hk2 hm2 wn (splitC n.natAbs (lf g N).length (sortDesc (coll g N)) (sortDesc (coll (it g E) N))) ?_ ?_ _ 0 rfl (Nat.zero_le _)
        · have g2 : Nat.gcd (ord g N) E = Nat.gcd (ord g N) n.natAbs := by
            rw [← hE]
            exact gcd_rest _ _ _ (Nat.dvd_refl _) ho
          rw [Int.natAbs_natCast, ← g2, ← hb.ord_it E, beq_self_eq_true] at last
          exact last
        · intro i hi
          rw [splitC_length, lf_length] at hi
          have g1 : ∀ i, i < N → Nat.gcd (per g N i) E = Nat.gcd (per g N i) n.natAbs := by
            intro i hi
            rw [← hE]
            refine gcd_rest _ _ _ ?_ ho
            rw [← hb.it_fix hi]
            exact (hb.ord_dvd _).1 (Nat.dvd_refl _) i hi
          unfold splitC
          rw [rd_map _ _ _ (by rw [lf_length]; exact Nat.lt_of_lt_of_le hi (Nat.le_refl _)), accI_perm _ _ ((sortDesc_perm _).trans (coll_lens g N hb)), hb.splits E n.natAbs g1,
            ((sortDesc_perm _).trans (coll_lens _ N bn)).count_eq, lens_count]
          exact Int.sub_self _
        · rw [splitC_length, lf_length]; exact Nat.lt_of_le_of_lt (Nat.succ_le_succ hl) (by decide)
    · rw [show (chk l != 0) = true from bne_iff_ne.2 hc]
      exact early
  · simp only [List.all_cons, List.all_nil, decide_eq_false hf, Bool.false_and, Bool.false_eq_true, if_false]
    exact early

end Go.Proofs.YtoaalfpfklchfaaDoor.Pure
