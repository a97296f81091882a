/- CosetLagrange: the index times the order of the subgroup is the order; each representative is in the coset with its number, and so are the products; the double cosets have all elements. -/
import Derived.Test.YtaaaljifclecnaaZCosetLagrangePLax2
import Derived.Test.YtaaaljifclecnaaZCosetLagrangeMg0
import Derived.Test.YtaaaljifclecnaaZCosetLagrangeMg4
namespace Go.Proofs.Ytaaaljifclecnaa.Pure
open Go.RowKit Go.Proofs.Ytaaaljifclecnaa.PLa Go.Proofs.YtaaaljifclecnaaW.PrintWords Go.Proofs.YtaaaljifclecnaaW.PrintLast Go.Proofs.Ytaaaljifclecnaa.Plain
set_option linter.unusedVariables false
set_option linter.unusedSimpArgs false
open Go.Proofs.Ytaaaljifclecnaa.Pms Go.Proofs.Ytaaaljifclecnaa.QPr Go.Proofs.Ytaaaljifclecnaa.QCl
theorem la_sum (Z : List Int) (v : Nat) (El : List (List Int)) (hz : ∀ x ∈ Z, 0 ≤ x ∧ x ≤ 240) (hl : Z.length ≤ 240) (hs : Z.sum = (v : Int)) (hE : El.length = v) : Ev (fun k => galoislaw27_CosetLagrange.l2 k El Z 0 0) true := by
  have hsum : ∀ i, 0 ≤ (Z.take i).sum ∧ (Z.take i).sum ≤ 240 * ((Z.take i).length : Int) := by
    have : ∀ L : List Int, (∀ x ∈ L, 0 ≤ x ∧ x ≤ 240) → 0 ≤ L.sum ∧ L.sum ≤ 240 * (L.length : Int) := by
      intro L
      induction L with
      | nil => intro _; simp
      | cons a r ih =>
        intro h
        have h1 := h a (List.mem_cons_self ..)
        have h2 := ih fun x hx => h x (List.mem_cons_of_mem _ hx)
        rw [List.sum_cons, List.length_cons]
        omega
    exact fun i => this _ fun x hx => hz x (List.mem_of_mem_take hx)
  refine Ev.congr (f := fun k => galoislaw27_CosetLagrange.l2 k El Z ((Z.take 0).sum) ((0 : Nat) : Int)) (fun k => rfl) ?_
  refine Tab.scan_all (l := fun k i => galoislaw27_CosetLagrange.l2 k El Z ((Z.take i).sum) ((i : Nat) : Int)) (n := Z.length) (fun i hi r hr => ?_) ?_
  · have h1 := hsum (i + 1)
    have hlt : (Z.take (i + 1)).length ≤ 240 := by rw [List.length_take]; omega
    have e : (Z.take i).sum + Z[i] = (Z.take (i + 1)).sum := by rw [← List.take_append_getElem hi, List.sum_append]; simp
    refine Ev.step (f := fun k => galoislaw27_CosetLagrange.l2 k El Z ((Z.take (i + 1)).sum) ((i + 1 : Nat) : Int)) (fun k => ?_) hr
    simp only [galoislaw27_CosetLagrange.l2]
    rw [if_pos (by omega), if_pos (by omega), rd_get Z i hi, e, w64_small (by omega) (by omega), wrap_nat (by omega)]
  · rw [List.take_length]
    refine Ev.step (f := fun _ => some true) (fun k => ?_) (Ev.now _)
    simp only [galoislaw27_CosetLagrange.l2]
    rw [if_neg (by omega), hs, hE, beq_self_eq_true]
theorem scan_fix {β : Type} {l : Nat → Nat → Option β} {n : Nat} {r : β} (hgood : ∀ i, i < n → Ev (fun k => l k (i + 1)) r → Ev (fun k => l k i) r) (hend : Ev (fun k => l k n) r) : Ev (fun k => l k 0) r := by
  have : ∀ d i, i + d = n → Ev (fun k => l k i) r := by
    intro d
    induction d with
    | zero => intro i hi; obtain rfl : i = n := by omega
              exact hend
    | succ d ih => intro i hi; exact hgood i (by omega) (ih (i + 1) (by omega))
  exact this n 0 (by omega)
theorem mapL {n : Nat} (L : List (Pm n)) (i : Nat) (h : i < L.length) : rd_L1 (L.map Pm.l) (i : Int) = L[i].l := mapl_get L i h
theorem la_loop {n : Nat} {a0 a1 : Int} {L0 L1 : List (List Int)} {S E T F : List (Pm n)} (h : Pair a0 L0 a1 L1 n S E T F) (hs : ∀ x ∈ F, x ∈ E) (Z : List Int) (hfin : Ev (fun k => galoislaw27_CosetLagrange.l2 k (E.map Pm.l) Z 0 0) true) : Ev (fun k => galoislaw27_CosetLagrange.l0 k (E.map Pm.l) (F.map Pm.l) ((reps F E).length : Int) ((reps F E).map Pm.l) Z 0 a0 L0 a1 L1) true := by
  have hRl := reps_len F E
  have hEl := h.lenE
  have hFl := h.lenF
  refine Ev.congr (f := fun k => galoislaw27_CosetLagrange.l0 k (E.map Pm.l) (F.map Pm.l) ((reps F E).length : Int) ((reps F E).map Pm.l) Z ((0 : Nat) : Int) a0 L0 a1 L1) (fun k => rfl) ?_
  refine Tab.scan_all (l := fun k i => galoislaw27_CosetLagrange.l0 k (E.map Pm.l) (F.map Pm.l) ((reps F E).length : Int) ((reps F E).map Pm.l) Z ((i : Nat) : Int) a0 L0 a1 L1) (n := (reps F E).length) (fun i hi r hr => ?_) ?_
  · refine Ev.step (f := fun k => galoislaw27_CosetLagrange.l1 k (E.map Pm.l) (F.map Pm.l) ((reps F E).length : Int) ((reps F E).map Pm.l) Z (i : Int) ((0 : Nat) : Int) a0 L0 a1 L1) (fun k => by simp only [galoislaw27_CosetLagrange.l0]; rw [if_pos (by omega)]; rfl) ?_
    obtain ⟨p, hp⟩ : ∃ p, (reps F E)[i] = p := ⟨_, rfl⟩
    have hpE : p ∈ E := hp ▸ (mem_reps.1 (List.getElem_mem hi)).1
    have hcp : cnum F E p = i := by rw [← hp]; exact cnum_rep h.srtE hi
    refine scan_fix (l := fun k j => galoislaw27_CosetLagrange.l1 k (E.map Pm.l) (F.map Pm.l) ((reps F E).length : Int) ((reps F E).map Pm.l) Z (i : Int) ((j : Nat) : Int) a0 L0 a1 L1) (n := F.length) (r := r) (fun j hj hr2 => ?_) ?_
    · have hx : F[j] ∈ F := List.getElem_mem hj
      have hxp : F[j] * p ∈ E := h.subE.mul _ (hs _ hx) _ hpE
      have hfd := find_ok h hs (F[j] * p)
      rw [if_pos hxp, cnum_mul h.subF p hx, hcp] at hfd
      have hck : Ev (fun k => PRf.galoisref22_Check.f k p.l) 0 := by
        have := QRf.galoisref22_Check.ev p.l
        rw [(chk_zero p.l).2 ⟨by rw [p.len]; exact h.hn, p.ok⟩] at this
        exact this
      refine Ev.step (f := fun k => (PRf.galoisref22_Check.f k p.l).bind fun t166 => galoislaw27_CosetLagrange.j4 k (E.map Pm.l) (F.map Pm.l) ((reps F E).length : Int) ((reps F E).map Pm.l) Z (i : Int) (j : Int) (t166 != 0) a0 L0 a1 L1) (fun k => ?_) (Ev.bind hck ?_)
      · simp only [galoislaw27_CosetLagrange.l1, List.length_map]
        rw [if_pos (by omega), if_pos (by omega), if_pos (by omega), mapL (reps F E) i hi, hp, if_pos (by rw [p.len, h.d0])]
      · refine Ev.step (f := fun k => (PRf.galoisref22_Mul.f k F[j].l p.l).bind fun t169 => ((Bs.findV k a0 L0 a1 L1 t169).bind fun bt172 => (if bt172.2 = 0 then (galoislaw27_CosetLagrange.j5 k (E.map Pm.l) (F.map Pm.l) ((reps F E).length : Int) ((reps F E).map Pm.l) Z (i : Int) (j : Int) (bt172.1 != (i : Int)) a0 L0 a1 L1) else (galoislaw27_CosetLagrange.j5 k (E.map Pm.l) (F.map Pm.l) ((reps F E).length : Int) ((reps F E).map Pm.l) Z (i : Int) (j : Int) true a0 L0 a1 L1)))) (fun k => ?_) ?_
        · simp only [galoislaw27_CosetLagrange.j4, List.length_map]
          rw [if_neg (by decide), if_pos (by omega), if_pos (by omega), if_pos (by omega), if_pos (by omega), mapL (reps F E) i hi, hp, mapL F j hj]
        · refine Ev.bind (mulP h.hn _ _) (Ev.bind hfd ?_)
          simp only [if_true]
          by_cases c : wrap64 ((E.length : Int) * (F.length : Int)) > 600
          · refine Ev.step (f := fun k => galoislaw27_CosetLagrange.l0 k (E.map Pm.l) (F.map Pm.l) ((reps F E).length : Int) ((reps F E).map Pm.l) Z ((i + 1 : Nat) : Int) a0 L0 a1 L1) (fun k => ?_) ?_
            · simp only [galoislaw27_CosetLagrange.j5, List.length_map, if_pos c]
              rw [if_neg (by simp), wrap_nat (by omega)]
            · exact hr
          · refine Ev.step (f := fun k => galoislaw27_CosetLagrange.l1 k (E.map Pm.l) (F.map Pm.l) ((reps F E).length : Int) ((reps F E).map Pm.l) Z (i : Int) ((j + 1 : Nat) : Int) a0 L0 a1 L1) (fun k => ?_) hr2
            simp only [galoislaw27_CosetLagrange.j5, List.length_map, if_neg c]
            rw [if_neg (by simp), wrap_nat (by omega)]
    · refine Ev.step (f := fun k => galoislaw27_CosetLagrange.l0 k (E.map Pm.l) (F.map Pm.l) ((reps F E).length : Int) ((reps F E).map Pm.l) Z ((i + 1 : Nat) : Int) a0 L0 a1 L1) (fun k => ?_) hr
      simp only [galoislaw27_CosetLagrange.l1, List.length_map]
      rw [if_neg (by omega), wrap_nat (by omega)]
  · refine Ev.step (f := fun k => galoislaw27_CosetLagrange.l2 k (E.map Pm.l) Z 0 0) (fun k => ?_) hfin
    simp only [galoislaw27_CosetLagrange.l0]
    rw [if_neg (by omega)]
theorem cast_sum : ∀ L : List Nat, (L.map fun x => ((x : Nat) : Int)).sum = ((L.sum : Nat) : Int)
  | [] => rfl
  | a :: r => by rw [List.map_cons, List.sum_cons, List.sum_cons, cast_sum r]; omega
theorem la_j0 (a0 : Int) (L0 : List (List Int)) (a1 : Int) (L1 : List (List Int)) (fl : Bool) (hs0 : fl = false → chkG a0 L0 = 0 → ∃ (n : Nat) (S E : List (Pm n)), QGp.Fit a0 L0 n S E) (hs1 : fl = false → chkG a1 L1 = 0 → ∃ (n : Nat) (S E : List (Pm n)), QGp.Fit a1 L1 n S E) : Ev (fun k => galoislaw27_CosetLagrange.j0 k fl a0 L0 a1 L1) true := by
  cases fl with
  | true => exact Ev.step (f := fun _ => some true) (fun k => by simp only [galoislaw27_CosetLagrange.j0, if_true]; rfl) (Ev.now _)
  | false =>
    refine Ev.step (f := fun k => ((PGp.galoislaw27_groups.f k a0 L0 a1 L1).bind fun bt144 => (if bt144.2.2 = 0 then ((Bs.indexV k a0 L0 a1 L1).bind fun bt151 => ((Bs.repsV k a0 L0 a1 L1).bind fun bt153 => ((Bs.doubV k a0 L0 a1 L1 a1 L1).bind fun bt157 => (if bt151.2 = 0 then (if bt153.2 = 0 then (if bt157.2.2 = 0 then (if (wrap64 (bt151.1 * (bt144.2.1.length : Int))) = (bt144.1.length : Int) then (galoislaw27_CosetLagrange.j1 k bt144.1 bt144.2.1 bt151.1 bt153.1 bt157.2.1 ((bt153.1.length : Int) != bt151.1) a0 L0 a1 L1) else (galoislaw27_CosetLagrange.j1 k bt144.1 bt144.2.1 bt151.1 bt153.1 bt157.2.1 true a0 L0 a1 L1)) else (galoislaw27_CosetLagrange.j1 k bt144.1 bt144.2.1 bt151.1 bt153.1 bt157.2.1 true a0 L0 a1 L1)) else (galoislaw27_CosetLagrange.j1 k bt144.1 bt144.2.1 bt151.1 bt153.1 bt157.2.1 true a0 L0 a1 L1)) else (galoislaw27_CosetLagrange.j1 k bt144.1 bt144.2.1 bt151.1 bt153.1 bt157.2.1 true a0 L0 a1 L1))))) else (some true)))) (fun k => by simp only [galoislaw27_CosetLagrange.j0, Bool.false_eq_true, if_false]) ?_
    by_cases ht : twoE a0 L0 a1 L1 = 0
    · obtain ⟨n, S, E, T, F, h⟩ := pair_of (hs0 rfl) (hs1 rfl) ht
      have hgr := groups_ev h ht
      by_cases hs : ∀ x ∈ F, x ∈ E
      · have he : subE E F = 0 := if_pos hs
        rw [he] at hgr
        refine Ev.bind hgr ?_
        simp only [if_true]
        refine Ev.bind (index_ok h hs) (Ev.bind (repsV_ok h hs) (Ev.bind (doub_ok h h hs hs) ?_))
        have hlag := lagrange h.subF h.subE hs
        have hEl := h.lenE
        have hw : wrap64 (((reps F E).length : Int) * ((F.map Pm.l).length : Int)) = ((E.map Pm.l).length : Int) := by
          rw [List.length_map, List.length_map, ← Int.natCast_mul, hlag]
          exact w64_small (by omega) (by omega)
        simp only [if_true, if_pos hw]
        have hb : (((((reps F E).map Pm.l).length : Nat) : Int) != ((reps F E).length : Int)) = false := by rw [List.length_map]; simp
        rw [hb]
        refine Ev.step (f := fun k => galoislaw27_CosetLagrange.l0 k (E.map Pm.l) (F.map Pm.l) ((reps F E).length : Int) ((reps F E).map Pm.l) ((dreps F F E).map fun p => (((dcl F F E p).length : Nat) : Int)) 0 a0 L0 a1 L1) (fun k => by simp only [galoislaw27_CosetLagrange.j1, Bool.false_eq_true, if_false]) ?_
        refine la_loop h hs _ (la_sum _ E.length _ (fun x hx => ?_) ?_ ?_ (by rw [List.length_map]))
        · obtain ⟨p, _, rfl⟩ := List.mem_map.1 hx
          have h1 : (dcl F F E p).length ≤ E.length := List.length_filter_le _ _
          omega
        · rw [List.length_map]
          have h1 : (dreps F F E).length ≤ E.length := List.length_filter_le _ _
          omega
        · have h1 := double_sum h.subF h.subF h.subE
          have h2 := cast_sum ((dreps F F E).map fun p => (dcl F F E p).length)
          rw [List.map_map, h1] at h2
          exact h2
      · have he : subE E F = 15 := if_neg hs
        rw [he] at hgr
        refine Ev.bind hgr ?_
        simp only [if_neg (show ¬ (15 : Int) = 0 by decide)]
        exact Ev.now _
    · obtain ⟨e, he⟩ : ∃ e, twoE a0 L0 a1 L1 = e := ⟨_, rfl⟩
      have e0 : e ≠ 0 := he ▸ ht
      refine Ev.bind (groups_bad he e0) ?_
      simp only [if_neg e0]
      exact Ev.now _
theorem CosetLagrange : galoislaw27_CosetLagrange.Pure := by
  intro a0 L0 a1 L1 _ _ _ _ _ _
  apply Ev.rounds
  refine Ev.congr (f := fun k => ((PGp.galoislaw27_large.f k a0 L0).bind fun t141 => (if t141 = true then (galoislaw27_CosetLagrange.j0 k true a0 L0 a1 L1) else ((PGp.galoislaw27_large.f k a1 L1).bind fun t142 => (galoislaw27_CosetLagrange.j0 k t142 a0 L0 a1 L1))))) (fun k => rfl) ?_
  obtain ⟨b0, h0, s0⟩ := QGp.large_ev a0 L0
  obtain ⟨b1, h1, s1⟩ := QGp.large_ev a1 L1
  refine Ev.bind h0 ?_
  cases b0 with
  | true => simp only [if_true]; exact la_j0 a0 L0 a1 L1 true (fun h => by cases h) (fun h => by cases h)
  | false =>
    simp only [Bool.false_eq_true, if_false]
    refine Ev.bind h1 ?_
    exact la_j0 a0 L0 a1 L1 b1 (fun _ => s0 rfl) (fun h => s1 h)
end Go.Proofs.Ytaaaljifclecnaa.Pure
