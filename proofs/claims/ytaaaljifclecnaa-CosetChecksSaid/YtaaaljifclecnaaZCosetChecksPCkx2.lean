-- Printed by wip/tools/mk.py of this repo (the kit's print with turns made in memory).
import Derived.Test.YtaaaljifclecnaaZCosetChecksPCkx0
import Derived.Test.YtaaaljifclecnaaZCosetChecksPCkx1
namespace Go.Proofs.Ytaaaljifclecnaa.PCk
open Go.RowKit Go.Proofs.YtaaaljifclecnaaW.PrintWords Go.Proofs.YtaaaljifclecnaaW.PrintLast Go.Proofs.YtaaaljifclecnaaW.PrintMore
attribute [local go_sem] max2_int min2_int max_two min_two max_three min_three max_four min_four   -- for this text's walks alone
set_option linter.unusedVariables false
set_option linter.unusedSimpArgs false
mutual
def coset_CheckTable.l0 : Nat → List (List Int) → List (List Int) → Int → Int → Option (Int)
  | 0, _, _, _, _ => none
  | k + 1, x0, x26, x27, x28 => if x28 < x27 then (if 0 ≤ x28 then (if x28 < (x26.length : Int) then (if ((rd_L1 x26 x28).length : Int) = (x0.length : Int) then (coset_CheckTable.l0 k x0 x26 x27 (wrap64 (x28 + 1))) else (some 2)) else (none)) else (none)) else ((coset_ranges.f k x0).bind fun t165 => (if t165 = 0 then (coset_CheckTable.l1 k x0 true x0 (x0.length : Int) 0) else (some t165)))
def coset_CheckTable.j3 : Nat → List (List Int) → Bool → Option (Int)
  | 0, _, _ => none
  | k + 1, x0, x6 => if x6 = true then (coset_CheckTable.l3 k x0 x0 (x0.length : Int) 0) else (some 15)
def coset_CheckTable.l3 : Nat → List (List Int) → List (List Int) → Int → Int → Option (Int)
  | 0, _, _, _, _ => none
  | k + 1, x0, x89, x90, x91 => if x91 < x90 then (if 0 ≤ x91 then (if x91 < (x89.length : Int) then (coset_CheckTable.l4 k x0 x91 x89 x90 x91 (rd_L1 x89 x91) ((rd_L1 x89 x91).length : Int) 0) else (none)) else (none)) else (some 0)
def coset_CheckTable.l4 : Nat → List (List Int) → Int → List (List Int) → Int → Int → List Int → Int → Int → Option (Int)
  | 0, _, _, _, _, _, _, _, _ => none
  | k + 1, x0, x12, x89, x90, x91, x96, x97, x98 => if x98 < x97 then (if 0 ≤ x98 then (if x98 < (x96.length : Int) then (if 0 ≤ (rd x96 x98) then (if (rd x96 x98) < (x0.length : Int) then (coset_CheckTable.l5 k x0 x12 x98 x89 x90 x91 x96 x97 x98 (rd_L1 x0 (rd x96 x98)) ((rd_L1 x0 (rd x96 x98)).length : Int) 0) else (none)) else (none)) else (none)) else (none)) else (coset_CheckTable.l3 k x0 x89 x90 (wrap64 (x91 + 1)))
def coset_CheckTable.l5 : Nat → List (List Int) → Int → Int → List (List Int) → Int → Int → List Int → Int → Int → List Int → Int → Int → Option (Int)
  | 0, _, _, _, _, _, _, _, _, _, _, _, _ => none
  | k + 1, x0, x12, x14, x89, x90, x91, x96, x97, x98, x106, x107, x108 => if x108 < x107 then (if 0 ≤ x108 then (if x108 < (x106.length : Int) then (if 0 ≤ x12 then (if x12 < (x0.length : Int) then (if 0 ≤ x14 then (if x14 < (x0.length : Int) then (if x108 < ((rd_L1 x0 x14).length : Int) then (if 0 ≤ (rd (rd_L1 x0 x14) x108) then (if (rd (rd_L1 x0 x14) x108) < ((rd_L1 x0 x12).length : Int) then (if (rd (rd_L1 x0 x12) (rd (rd_L1 x0 x14) x108)) = (rd x106 x108) then (coset_CheckTable.l5 k x0 x12 x14 x89 x90 x91 x96 x97 x98 x106 x107 (wrap64 (x108 + 1))) else (some 15)) else (none)) else (none)) else (none)) else (none)) else (none)) else (none)) else (none)) else (none)) else (none)) else (coset_CheckTable.l4 k x0 x12 x89 x90 x91 x96 x97 (wrap64 (x98 + 1)))
def coset_CheckTable.l1 : Nat → List (List Int) → Bool → List (List Int) → Int → Int → Option (Int)
  | 0, _, _, _, _, _ => none
  | k + 1, x0, x6, x43, x44, x45 => if x45 < x44 then (if 0 ≤ x45 then (if x45 < (x43.length : Int) then (if 0 ≤ (x0.length : Int) then (if ((x0.length : Int) : Int).toNat ≤ 281474976710656 then (coset_CheckTable.l2 k x0 x6 x45 (List.replicate ((x0.length : Int) : Int).toNat false) x43 x44 x45 (rd_L1 x43 x45) ((rd_L1 x43 x45).length : Int) 0) else (none)) else (none)) else (none)) else (none)) else (coset_CheckTable.j3 k x0 x6)
def coset_CheckTable.l2 : Nat → List (List Int) → Bool → Int → List Bool → List (List Int) → Int → Int → List Int → Int → Int → Option (Int)
  | 0, _, _, _, _, _, _, _, _, _, _ => none
  | k + 1, x0, x6, x7, x9, x43, x44, x45, x53, x54, x55 => if x55 < x54 then (if 0 ≤ x55 then (if x55 < (x53.length : Int) then (if 0 ≤ (rd x53 x55) then (if (rd x53 x55) < (x9.length : Int) then (if rdOf false x9 (rd x53 x55) = true then (coset_CheckTable.j3 k x0 false) else (if x7 = 0 then (if (rd x53 x55) = x55 then (if x55 = 0 then (if (rd x53 x55) = x7 then (coset_CheckTable.l2 k x0 x6 x7 (x9.set ((rd x53 x55) : Int).toNat true) x43 x44 x45 x53 x54 (wrap64 (x55 + 1))) else (coset_CheckTable.j3 k x0 false)) else (coset_CheckTable.l2 k x0 x6 x7 (x9.set ((rd x53 x55) : Int).toNat true) x43 x44 x45 x53 x54 (wrap64 (x55 + 1)))) else (coset_CheckTable.j3 k x0 false)) else (if x55 = 0 then (if (rd x53 x55) = x7 then (coset_CheckTable.l2 k x0 x6 x7 (x9.set ((rd x53 x55) : Int).toNat true) x43 x44 x45 x53 x54 (wrap64 (x55 + 1))) else (coset_CheckTable.j3 k x0 false)) else (coset_CheckTable.l2 k x0 x6 x7 (x9.set ((rd x53 x55) : Int).toNat true) x43 x44 x45 x53 x54 (wrap64 (x55 + 1)))))) else (none)) else (none)) else (none)) else (none)) else (coset_CheckTable.l1 k x0 x6 x43 x44 (wrap64 (x45 + 1)))
end
def coset_CheckTable.f (k : Nat) (l0 : List (List Int)) : Option (Int) := if (l0.length : Int) = 0 then (some 2) else (if (l0.length : Int) > 120 then (some 5) else (coset_CheckTable.l0 k l0 l0 (l0.length : Int) 0))
theorem coset_CheckTable.mono_l : ∀ k, (∀ y0 y1 y2 y3, LeO (coset_CheckTable.l0 k y0 y1 y2 y3) (coset_CheckTable.l0 (k + 1) y0 y1 y2 y3)) ∧ (∀ y0 y1, LeO (coset_CheckTable.j3 k y0 y1) (coset_CheckTable.j3 (k + 1) y0 y1)) ∧ (∀ y0 y1 y2 y3, LeO (coset_CheckTable.l3 k y0 y1 y2 y3) (coset_CheckTable.l3 (k + 1) y0 y1 y2 y3)) ∧ (∀ y0 y1 y2 y3 y4 y5 y6 y7, LeO (coset_CheckTable.l4 k y0 y1 y2 y3 y4 y5 y6 y7) (coset_CheckTable.l4 (k + 1) y0 y1 y2 y3 y4 y5 y6 y7)) ∧ (∀ y0 y1 y2 y3 y4 y5 y6 y7 y8 y9 y10 y11, LeO (coset_CheckTable.l5 k y0 y1 y2 y3 y4 y5 y6 y7 y8 y9 y10 y11) (coset_CheckTable.l5 (k + 1) y0 y1 y2 y3 y4 y5 y6 y7 y8 y9 y10 y11)) ∧ (∀ y0 y1 y2 y3 y4, LeO (coset_CheckTable.l1 k y0 y1 y2 y3 y4) (coset_CheckTable.l1 (k + 1) y0 y1 y2 y3 y4)) ∧ (∀ y0 y1 y2 y3 y4 y5 y6 y7 y8 y9, LeO (coset_CheckTable.l2 k y0 y1 y2 y3 y4 y5 y6 y7 y8 y9) (coset_CheckTable.l2 (k + 1) y0 y1 y2 y3 y4 y5 y6 y7 y8 y9))
  | 0 => ⟨fun _ _ _ _ r h => by simp [coset_CheckTable.l0] at h, fun _ _ r h => by simp [coset_CheckTable.j3] at h, fun _ _ _ _ r h => by simp [coset_CheckTable.l3] at h, fun _ _ _ _ _ _ _ _ r h => by simp [coset_CheckTable.l4] at h, fun _ _ _ _ _ _ _ _ _ _ _ _ r h => by simp [coset_CheckTable.l5] at h, fun _ _ _ _ _ r h => by simp [coset_CheckTable.l1] at h, fun _ _ _ _ _ _ _ _ _ _ r h => by simp [coset_CheckTable.l2] at h⟩
  | k + 1 => by
    obtain ⟨ih0, ih1, ih2, ih3, ih4, ih5, ih6⟩ := coset_CheckTable.mono_l k
    refine ⟨?_, ?_, ?_, ?_, ?_, ?_, ?_⟩
    · intro y0 y1 y2 y3
      unfold coset_CheckTable.l0
      repeat' first
      | (with_reducible exact ih0 _ _ _ _)
      | (with_reducible exact ih1 _ _)
      | (with_reducible exact ih2 _ _ _ _)
      | (with_reducible exact ih3 _ _ _ _ _ _ _ _)
      | (with_reducible exact ih4 _ _ _ _ _ _ _ _ _ _ _ _)
      | (with_reducible exact ih5 _ _ _ _ _)
      | (with_reducible exact ih6 _ _ _ _ _ _ _ _ _ _)
      | (with_reducible exact coset_ranges.mono _ _)
      | (with_reducible exact LeO.refl _)
      | (with_reducible exact LeO.none _)
      | (with_reducible refine LeO.ite ?_ ?_)
      | (with_reducible refine LeO.bind ?_ (fun _ => ?_))
      | exact ih0 _ _ _ _
      | exact ih1 _ _
      | exact ih2 _ _ _ _
      | exact ih3 _ _ _ _ _ _ _ _
      | exact ih4 _ _ _ _ _ _ _ _ _ _ _ _
      | exact ih5 _ _ _ _ _
      | exact ih6 _ _ _ _ _ _ _ _ _ _
      | exact coset_ranges.mono _ _
      | exact LeO.none _
      | refine LeO.ite ?_ ?_
      | refine LeO.bind ?_ (fun _ => ?_)
    · intro y0 y1
      unfold coset_CheckTable.j3
      repeat' first
      | (with_reducible exact ih0 _ _ _ _)
      | (with_reducible exact ih1 _ _)
      | (with_reducible exact ih2 _ _ _ _)
      | (with_reducible exact ih3 _ _ _ _ _ _ _ _)
      | (with_reducible exact ih4 _ _ _ _ _ _ _ _ _ _ _ _)
      | (with_reducible exact ih5 _ _ _ _ _)
      | (with_reducible exact ih6 _ _ _ _ _ _ _ _ _ _)
      | (with_reducible exact coset_ranges.mono _ _)
      | (with_reducible exact LeO.refl _)
      | (with_reducible exact LeO.none _)
      | (with_reducible refine LeO.ite ?_ ?_)
      | (with_reducible refine LeO.bind ?_ (fun _ => ?_))
      | exact ih0 _ _ _ _
      | exact ih1 _ _
      | exact ih2 _ _ _ _
      | exact ih3 _ _ _ _ _ _ _ _
      | exact ih4 _ _ _ _ _ _ _ _ _ _ _ _
      | exact ih5 _ _ _ _ _
      | exact ih6 _ _ _ _ _ _ _ _ _ _
      | exact coset_ranges.mono _ _
      | exact LeO.none _
      | refine LeO.ite ?_ ?_
      | refine LeO.bind ?_ (fun _ => ?_)
    · intro y0 y1 y2 y3
      unfold coset_CheckTable.l3
      repeat' first
      | (with_reducible exact ih0 _ _ _ _)
      | (with_reducible exact ih1 _ _)
      | (with_reducible exact ih2 _ _ _ _)
      | (with_reducible exact ih3 _ _ _ _ _ _ _ _)
      | (with_reducible exact ih4 _ _ _ _ _ _ _ _ _ _ _ _)
      | (with_reducible exact ih5 _ _ _ _ _)
      | (with_reducible exact ih6 _ _ _ _ _ _ _ _ _ _)
      | (with_reducible exact coset_ranges.mono _ _)
      | (with_reducible exact LeO.refl _)
      | (with_reducible exact LeO.none _)
      | (with_reducible refine LeO.ite ?_ ?_)
      | (with_reducible refine LeO.bind ?_ (fun _ => ?_))
      | exact ih0 _ _ _ _
      | exact ih1 _ _
      | exact ih2 _ _ _ _
      | exact ih3 _ _ _ _ _ _ _ _
      | exact ih4 _ _ _ _ _ _ _ _ _ _ _ _
      | exact ih5 _ _ _ _ _
      | exact ih6 _ _ _ _ _ _ _ _ _ _
      | exact coset_ranges.mono _ _
      | exact LeO.none _
      | refine LeO.ite ?_ ?_
      | refine LeO.bind ?_ (fun _ => ?_)
    · intro y0 y1 y2 y3 y4 y5 y6 y7
      unfold coset_CheckTable.l4
      repeat' first
      | (with_reducible exact ih0 _ _ _ _)
      | (with_reducible exact ih1 _ _)
      | (with_reducible exact ih2 _ _ _ _)
      | (with_reducible exact ih3 _ _ _ _ _ _ _ _)
      | (with_reducible exact ih4 _ _ _ _ _ _ _ _ _ _ _ _)
      | (with_reducible exact ih5 _ _ _ _ _)
      | (with_reducible exact ih6 _ _ _ _ _ _ _ _ _ _)
      | (with_reducible exact coset_ranges.mono _ _)
      | (with_reducible exact LeO.refl _)
      | (with_reducible exact LeO.none _)
      | (with_reducible refine LeO.ite ?_ ?_)
      | (with_reducible refine LeO.bind ?_ (fun _ => ?_))
      | exact ih0 _ _ _ _
      | exact ih1 _ _
      | exact ih2 _ _ _ _
      | exact ih3 _ _ _ _ _ _ _ _
      | exact ih4 _ _ _ _ _ _ _ _ _ _ _ _
      | exact ih5 _ _ _ _ _
      | exact ih6 _ _ _ _ _ _ _ _ _ _
      | exact coset_ranges.mono _ _
      | exact LeO.none _
      | refine LeO.ite ?_ ?_
      | refine LeO.bind ?_ (fun _ => ?_)
    · intro y0 y1 y2 y3 y4 y5 y6 y7 y8 y9 y10 y11
      unfold coset_CheckTable.l5
      repeat' first
      | (with_reducible exact ih0 _ _ _ _)
      | (with_reducible exact ih1 _ _)
      | (with_reducible exact ih2 _ _ _ _)
      | (with_reducible exact ih3 _ _ _ _ _ _ _ _)
      | (with_reducible exact ih4 _ _ _ _ _ _ _ _ _ _ _ _)
      | (with_reducible exact ih5 _ _ _ _ _)
      | (with_reducible exact ih6 _ _ _ _ _ _ _ _ _ _)
      | (with_reducible exact coset_ranges.mono _ _)
      | (with_reducible exact LeO.refl _)
      | (with_reducible exact LeO.none _)
      | (with_reducible refine LeO.ite ?_ ?_)
      | (with_reducible refine LeO.bind ?_ (fun _ => ?_))
      | exact ih0 _ _ _ _
      | exact ih1 _ _
      | exact ih2 _ _ _ _
      | exact ih3 _ _ _ _ _ _ _ _
      | exact ih4 _ _ _ _ _ _ _ _ _ _ _ _
      | exact ih5 _ _ _ _ _
      | exact ih6 _ _ _ _ _ _ _ _ _ _
      | exact coset_ranges.mono _ _
      | exact LeO.none _
      | refine LeO.ite ?_ ?_
      | refine LeO.bind ?_ (fun _ => ?_)
    · intro y0 y1 y2 y3 y4
      unfold coset_CheckTable.l1
      repeat' first
      | (with_reducible exact ih0 _ _ _ _)
      | (with_reducible exact ih1 _ _)
      | (with_reducible exact ih2 _ _ _ _)
      | (with_reducible exact ih3 _ _ _ _ _ _ _ _)
      | (with_reducible exact ih4 _ _ _ _ _ _ _ _ _ _ _ _)
      | (with_reducible exact ih5 _ _ _ _ _)
      | (with_reducible exact ih6 _ _ _ _ _ _ _ _ _ _)
      | (with_reducible exact coset_ranges.mono _ _)
      | (with_reducible exact LeO.refl _)
      | (with_reducible exact LeO.none _)
      | (with_reducible refine LeO.ite ?_ ?_)
      | (with_reducible refine LeO.bind ?_ (fun _ => ?_))
      | exact ih0 _ _ _ _
      | exact ih1 _ _
      | exact ih2 _ _ _ _
      | exact ih3 _ _ _ _ _ _ _ _
      | exact ih4 _ _ _ _ _ _ _ _ _ _ _ _
      | exact ih5 _ _ _ _ _
      | exact ih6 _ _ _ _ _ _ _ _ _ _
      | exact coset_ranges.mono _ _
      | exact LeO.none _
      | refine LeO.ite ?_ ?_
      | refine LeO.bind ?_ (fun _ => ?_)
    · intro y0 y1 y2 y3 y4 y5 y6 y7 y8 y9
      unfold coset_CheckTable.l2
      repeat' first
      | (with_reducible exact ih0 _ _ _ _)
      | (with_reducible exact ih1 _ _)
      | (with_reducible exact ih2 _ _ _ _)
      | (with_reducible exact ih3 _ _ _ _ _ _ _ _)
      | (with_reducible exact ih4 _ _ _ _ _ _ _ _ _ _ _ _)
      | (with_reducible exact ih5 _ _ _ _ _)
      | (with_reducible exact ih6 _ _ _ _ _ _ _ _ _ _)
      | (with_reducible exact coset_ranges.mono _ _)
      | (with_reducible exact LeO.refl _)
      | (with_reducible exact LeO.none _)
      | (with_reducible refine LeO.ite ?_ ?_)
      | (with_reducible refine LeO.bind ?_ (fun _ => ?_))
      | exact ih0 _ _ _ _
      | exact ih1 _ _
      | exact ih2 _ _ _ _
      | exact ih3 _ _ _ _ _ _ _ _
      | exact ih4 _ _ _ _ _ _ _ _ _ _ _ _
      | exact ih5 _ _ _ _ _
      | exact ih6 _ _ _ _ _ _ _ _ _ _
      | exact coset_ranges.mono _ _
      | exact LeO.none _
      | refine LeO.ite ?_ ?_
      | refine LeO.bind ?_ (fun _ => ?_)
theorem coset_CheckTable.mono : ∀ a0 k, LeO (coset_CheckTable.f k a0) (coset_CheckTable.f (k + 1) a0) := by
  intro a0 k
  obtain ⟨ih0, ih1, ih2, ih3, ih4, ih5, ih6⟩ := coset_CheckTable.mono_l k
  unfold coset_CheckTable.f
  repeat' first
      | (with_reducible exact ih0 _ _ _ _)
      | (with_reducible exact ih1 _ _)
      | (with_reducible exact ih2 _ _ _ _)
      | (with_reducible exact ih3 _ _ _ _ _ _ _ _)
      | (with_reducible exact ih4 _ _ _ _ _ _ _ _ _ _ _ _)
      | (with_reducible exact ih5 _ _ _ _ _)
      | (with_reducible exact ih6 _ _ _ _ _ _ _ _ _ _)
      | (with_reducible exact coset_ranges.mono _ _)
      | (with_reducible exact LeO.refl _)
      | (with_reducible exact LeO.none _)
      | (with_reducible refine LeO.ite ?_ ?_)
      | (with_reducible refine LeO.bind ?_ (fun _ => ?_))
      | exact ih0 _ _ _ _
      | exact ih1 _ _
      | exact ih2 _ _ _ _
      | exact ih3 _ _ _ _ _ _ _ _
      | exact ih4 _ _ _ _ _ _ _ _ _ _ _ _
      | exact ih5 _ _ _ _ _
      | exact ih6 _ _ _ _ _ _ _ _ _ _
      | exact coset_ranges.mono _ _
      | exact LeO.none _
      | refine LeO.ite ?_ ?_
      | refine LeO.bind ?_ (fun _ => ?_)
set_option maxHeartbeats 8000000 in
set_option maxRecDepth 100000 in
theorem coset_CheckTable.calls (k : Nat) (A0 : Option Addr) (c0 : Nat) (l0 : List (List Int)) (r : Int) (w : World) (hr0 : Kd.C (Kd.slice 3 (Kd.int .i64)) w A0 l0.length l0) (hc0 : l0.length ≤ c0) (h : coset_CheckTable.f k l0 = some r) :
    Calls Try.prog 38 #[.slice A0 l0.length c0] w fun e w' => e = .returned (.int .i64 r) ∧ Below w.heap.size w w' := by
  have HR0 := Aside0.mk hr0
  have HC0 := Aside0.mk hc0
  clear hr0 hc0
  have HB := Aside0.mk (Below.refl w.heap.size w)
  have H : (if (l0.length : Int) = 0 then (some 2) else (if (l0.length : Int) > 120 then (some 5) else (coset_CheckTable.l0 k l0 l0 (l0.length : Int) 0))) = some r := h
  clear h
  by_cases c2 : (l0.length : Int) = 0
  · rw [if_pos c2] at H
    have c2b0 : ((l0.length : Int) == 0) = true := beq_iff_eq.mpr c2
    have c2b1 : ((l0.length : Int) != 0) = false := bne_eq_false_iff_eq.mpr c2
    clear c2
    obtain rfl := Option.some.inj H
    go_enter Try.func38, Try.ntmps38
    go_wp2
    apply wp_scope_straight
    go_wp2
    repeat (apply wp_label; go_wp2)
    repeat (go_quiet (fail); try go_wp2)
    (try simp only [Exit.noGoto])
    go_ret
    exact ⟨by first | rfl | (simp [errW_none, errW_some] <;> rfl) | (simp [*, errW_none, errW_some] <;> rfl), by repeat (first | (with_reducible first | exact HB.out | apply below_alloc | apply pw_below_drewN | apply below_drew1) | exact HB.out)⟩
  · rw [if_neg c2] at H
    have c2b0 : ((l0.length : Int) == 0) = false := beq_eq_false_iff_ne.mpr c2
    have c2b1 : ((l0.length : Int) != 0) = true := bne_iff_ne.mpr c2
    have c2b2 : ¬ (l0 = []) := fun h_ => c2 (by rw [h_]; rfl)
    by_cases c3 : (l0.length : Int) > 120
    · rw [if_pos c3] at H
      have c3b0 : decide (120 < (l0.length : Int)) = true := decide_eq_true c3
      have c3b1 : decide (120 < l0.length) = true := decide_eq_true (by omega)
      clear c3
      obtain rfl := Option.some.inj H
      go_enter Try.func38, Try.ntmps38
      go_wp2
      apply wp_scope_straight
      go_wp2
      repeat (apply wp_label; go_wp2)
      repeat (go_quiet (fail); try go_wp2)
      (try simp only [Exit.noGoto])
      go_ret
      exact ⟨by first | rfl | (simp [errW_none, errW_some] <;> rfl) | (simp [*, errW_none, errW_some] <;> rfl), by repeat (first | (with_reducible first | exact HB.out | apply below_alloc | apply pw_below_drewN | apply below_drew1) | exact HB.out)⟩
    · rw [if_neg c3] at H
      have c3b0 : decide (120 < (l0.length : Int)) = false := decide_eq_false c3
      have c3b1 : decide (120 < l0.length) = false := decide_eq_false (by omega)
      clear c3
      have H' := Aside0.mk H
      clear H
      go_enter Try.func38, Try.ntmps38
      go_wp2
      apply wp_scope_straight
      go_wp2
      repeat (apply wp_label; go_wp2)
      repeat (go_quiet (fail); try go_wp2)
      go_loopg [28] k (fun kq v28 w' => ∃ (x28_1 : Int), v28 = .int .i64 x28_1 ∧ Aside0 (coset_CheckTable.l0 kq l0 l0 (l0.length : Int) x28_1 = some r) ∧ Aside0 (kq ≤ k) ∧ Aside0 (Below w.heap.size w w'))
      case atStart => exact ⟨(0), (by first | rfl | (simp; done) | (simp [*]; done)), H', ⟨Nat.le_refl _⟩, ⟨by repeat (first | (with_reducible first | exact HB.out | apply below_alloc | apply pw_below_drewN | apply below_drew1) | exact HB.out)⟩⟩
      case round =>
        clear H'
        try clear c2
        try clear c2b0
        try clear c2b1
        try clear c2b2
        try clear p2
        try clear c3
        try clear c3b0
        try clear c3b1
        obtain ⟨x28_1, rfl, HA, HK1, HB⟩ := hrel
        cases gk with
        | zero => exact absurd HA.out (by simp [coset_CheckTable.l0])
        | succ k1 =>
          have H := HA.out
          clear HA
          simp only [coset_CheckTable.l0] at H
          by_cases c4 : x28_1 < (l0.length : Int)
          · rw [if_pos c4] at H
            have c4b0 : decide (x28_1 < (l0.length : Int)) = true := decide_eq_true c4
            clear c4
            by_cases c5 : 0 ≤ x28_1
            · rw [if_pos c5] at H
              have c5b0 : decide (0 ≤ x28_1) = true := decide_eq_true c5
              clear c5
              by_cases c6 : x28_1 < (l0.length : Int)
              · rw [if_pos c6] at H
                have c6b0 : decide (x28_1 < (l0.length : Int)) = true := decide_eq_true c6
                clear c6
                by_cases c7 : ((rd_L1 l0 x28_1).length : Int) = (l0.length : Int)
                · rw [if_pos c7] at H
                  have c7b0 : (((rd_L1 l0 x28_1).length : Int) == (l0.length : Int)) = true := beq_iff_eq.mpr c7
                  have c7b1 : (((rd_L1 l0 x28_1).length : Int) != (l0.length : Int)) = false := bne_eq_false_iff_eq.mpr c7
                  have c7b2 : ((rd_L1 l0 x28_1).length == l0.length) = true := by first | simpa using c7 | (simp at c7 ⊢; omega)
                  clear c7
                  have H' := Aside0.mk H
                  clear H
                  have p164 : 0 ≤ (x28_1 : Int) := of_decide_eq_true (by first | (with_reducible assumption) | assumption)
                  have q164 : x28_1 < (l0.length : Int) := of_decide_eq_true (by first | (with_reducible assumption) | assumption)
                  obtain ⟨ad164, A164_0, c164_0, e164, hx164_0, hl164_0, hi164_0⟩ := at_L1 HR0.out x28_1 p164 q164
                  cases e164
                  try (replace hx164_0 := (HB.out.cell (World.block_lt_of_cell? w _ hx164_0)).trans hx164_0)
                  have HR164_0 := Aside0.mk hi164_0
                  have HC164_0 := Aside0.mk hl164_0
                  clear hi164_0 hl164_0
                  replace p164 := eq_true p164
                  replace q164 := eq_true q164
                  go_wp2
                  repeat (apply wp_label; go_wp2)
                  repeat (go_quiet (fail); try go_wp2)
                  go_roundg k1
                  case measure => have := HK1.out; omega
                  case rel => exact ⟨(wrap64 (x28_1 + 1)), (by first | rfl | (simp; done) | (simp [*]; done)), H', ⟨by have := HK1.out; omega⟩, ⟨by repeat (first | (with_reducible first | exact HB.out | apply below_alloc | apply pw_below_drewN | apply below_drew1) | exact HB.out)⟩⟩
                · rw [if_neg c7] at H
                  have c7b0 : (((rd_L1 l0 x28_1).length : Int) == (l0.length : Int)) = false := beq_eq_false_iff_ne.mpr c7
                  have c7b1 : (((rd_L1 l0 x28_1).length : Int) != (l0.length : Int)) = true := bne_iff_ne.mpr c7
                  have c7b2 : ((rd_L1 l0 x28_1).length == l0.length) = false := by first | simpa using c7 | (simp at c7 ⊢; omega)
                  obtain rfl := Option.some.inj H
                  have p164 : 0 ≤ (x28_1 : Int) := of_decide_eq_true (by first | (with_reducible assumption) | assumption)
                  have q164 : x28_1 < (l0.length : Int) := of_decide_eq_true (by first | (with_reducible assumption) | assumption)
                  obtain ⟨ad164, A164_0, c164_0, e164, hx164_0, hl164_0, hi164_0⟩ := at_L1 HR0.out x28_1 p164 q164
                  cases e164
                  try (replace hx164_0 := (HB.out.cell (World.block_lt_of_cell? w _ hx164_0)).trans hx164_0)
                  have HR164_0 := Aside0.mk hi164_0
                  have HC164_0 := Aside0.mk hl164_0
                  clear hi164_0 hl164_0
                  replace p164 := eq_true p164
                  replace q164 := eq_true q164
                  go_wp2
                  repeat (apply wp_label; go_wp2)
                  repeat (go_quiet (fail); try go_wp2)
                  (try simp only [Exit.noGoto])
                  go_ret
                  exact ⟨by first | rfl | (simp [errW_none, errW_some] <;> rfl) | (simp [*, errW_none, errW_some] <;> rfl), by repeat (first | (with_reducible first | exact HB.out | apply below_alloc | apply pw_below_drewN | apply below_drew1) | exact HB.out)⟩
              · rw [if_neg c6] at H
                exact absurd H (by simp)
            · rw [if_neg c5] at H
              exact absurd H (by simp)
          · rw [if_neg c4] at H
            have c4b0 : decide (x28_1 < (l0.length : Int)) = false := decide_eq_false c4
            clear c4
            replace H := Option.bind_eq_some_iff.mp H
            obtain ⟨t165, A80, H⟩ := H
            replace H : (if t165 = 0 then (coset_CheckTable.l1 k1 l0 true l0 (l0.length : Int) 0) else (some t165)) = some r := H
            have A8 := Aside0.mk A80
            clear A80
            by_cases c9 : t165 = 0
            · rw [if_pos c9] at H
              have c9b0 : (t165 == 0) = true := beq_iff_eq.mpr c9
              have c9b1 : (t165 != 0) = false := bne_eq_false_iff_eq.mpr c9
              clear c9
              have HC10 := Aside0.mk H
              clear H
              go_upto_block 3 with (first | (go_at_call 69; (with_reducible refine (coset_ranges.calls k1 _ _ l0 t165 _ ?side1 ?side2 A8.out).mono ?_); (case side1 => repeat (first | exact (Kd.C_below HR0.out HB.out) | (with_reducible refine Kd.C_alloc ?_ _) | (with_reducible refine Kd.C_drewN ?_ _) | (with_reducible refine Kd.C_drew ?_))); (case side2 => exact HC0.out); rintro e w' ⟨rfl, ⟨nd, rfl⟩⟩; (try first | exact ⟨rfl, _, World.drewN_drewN _ _ _⟩ | exact ⟨rfl, _, Eq.trans (World.drewN_drewN _ _ _) (congrArg (World.drewN _) (Nat.add_assoc _ _ _))⟩)))
              repeat (apply wp_label; go_upto_block 3 with (fail))
              repeat (go_quiet (first | (go_at_call 69; (with_reducible refine (coset_ranges.calls k1 _ _ l0 t165 _ ?side1 ?side2 A8.out).mono ?_); (case side1 => repeat (first | exact (Kd.C_below HR0.out HB.out) | (with_reducible refine Kd.C_alloc ?_ _) | (with_reducible refine Kd.C_drewN ?_ _) | (with_reducible refine Kd.C_drew ?_))); (case side2 => exact HC0.out); rintro e w' ⟨rfl, ⟨nd, rfl⟩⟩; (try first | exact ⟨rfl, _, World.drewN_drewN _ _ _⟩ | exact ⟨rfl, _, Eq.trans (World.drewN_drewN _ _ _) (congrArg (World.drewN _) (Nat.add_assoc _ _ _))⟩))); go_upto_block 3 with (first | (go_at_call 69; (with_reducible refine (coset_ranges.calls k1 _ _ l0 t165 _ ?side1 ?side2 A8.out).mono ?_); (case side1 => repeat (first | exact (Kd.C_below HR0.out HB.out) | (with_reducible refine Kd.C_alloc ?_ _) | (with_reducible refine Kd.C_drewN ?_ _) | (with_reducible refine Kd.C_drew ?_))); (case side2 => exact HC0.out); rintro e w' ⟨rfl, ⟨nd, rfl⟩⟩; (try first | exact ⟨rfl, _, World.drewN_drewN _ _ _⟩ | exact ⟨rfl, _, Eq.trans (World.drewN_drewN _ _ _) (congrArg (World.drewN _) (Nat.add_assoc _ _ _))⟩))))
              (try simp only [Act.put, List.setIfInBounds_toArray, List.set_cons_zero, List.set_cons_succ])
              go_cut [6] (fun v6 wc => ∃ (kq : Nat) (x6_9 : Bool), v6 = .bool x6_9 ∧ Aside0 (coset_CheckTable.j3 kq l0 x6_9 = some r) ∧ Aside0 (kq ≤ k1) ∧ Aside0 (Below w.heap.size w wc))
              case first =>
                have H := HC10.out
                clear HC10
                have H' := Aside0.mk H
                clear H
                go_wp2
                repeat (apply wp_label; go_wp2)
                repeat (go_quiet (fail); try go_wp2)
                go_loopg [6, 45] k1 (fun kq v6 v45 w' => ∃ (x6_2 : Bool) (x45_2 : Int), v6 = .bool x6_2 ∧ v45 = .int .i64 x45_2 ∧ Aside0 (coset_CheckTable.l1 kq l0 x6_2 l0 (l0.length : Int) x45_2 = some r) ∧ Aside0 (kq ≤ k1) ∧ Aside0 (Below w.heap.size w w'))
                case atStart => exact ⟨(true), (0), (by first | rfl | (simp; done) | (simp [*]; done)), (by first | rfl | (simp; done) | (simp [*]; done)), H', ⟨Nat.le_refl _⟩, ⟨by repeat (first | (with_reducible first | exact HB.out | apply below_alloc | apply pw_below_drewN | apply below_drew1) | exact HB.out)⟩⟩
                case round =>
                  clear H'
                  try clear c1
                  try clear p1
                  try clear q1
                  try clear hx1
                  try clear c2
                  try clear c2b0
                  try clear c2b1
                  try clear c2b2
                  try clear p2
                  try clear c3
                  try clear c3b0
                  try clear c3b1
                  try clear c4
                  try clear c4b0
                  try clear c5
                  try clear c5b0
                  try clear c6
                  try clear c6b0
                  try clear p6
                  try clear c7
                  try clear c7b0
                  try clear c7b1
                  try clear c7b2
                  try clear c9
                  try clear c9b0
                  try clear c9b1
                  try clear hx164_0
                  try clear p164
                  try clear p2
                  try clear q164
                  obtain ⟨x6_2, x45_2, rfl, rfl, HA, HK2, HB⟩ := hrel
                  cases gk with
                  | zero => exact absurd HA.out (by simp [coset_CheckTable.l1])
                  | succ k2 =>
                    have H := HA.out
                    clear HA
                    simp only [coset_CheckTable.l1] at H
                    by_cases c11 : x45_2 < (l0.length : Int)
                    · rw [if_pos c11] at H
                      have c11b0 : decide (x45_2 < (l0.length : Int)) = true := decide_eq_true c11
                      clear c11
                      (first | rw [c11b0] | (simp only [i64_w, i32_w]; rw [c11b0]) | skip)
                      by_cases c12 : 0 ≤ x45_2
                      · rw [if_pos c12] at H
                        have c12b0 : decide (0 ≤ x45_2) = true := decide_eq_true c12
                        clear c12
                        by_cases c13 : x45_2 < (l0.length : Int)
                        · rw [if_pos c13] at H
                          have c13b0 : decide (x45_2 < (l0.length : Int)) = true := decide_eq_true c13
                          clear c13
                          by_cases c14 : 0 ≤ (l0.length : Int)
                          · rw [if_pos c14] at H
                            have c14b0 := eq_true c14
                            have c14b1 : decide (0 ≤ (l0.length : Int)) = true := decide_eq_true c14
                            clear c14
                            by_cases c15 : ((l0.length : Int) : Int).toNat ≤ 281474976710656
                            · rw [if_pos c15] at H
                              have c15b0 := eq_true c15
                              have c15b1 : decide (((l0.length : Int) : Int).toNat ≤ 281474976710656) = true := decide_eq_true c15
                              clear c15
                              obtain ⟨y167, hy167⟩ : ∃ y_ : List Bool, y_ = (List.replicate ((l0.length : Int) : Int).toNat false) := ⟨_, rfl⟩
                              replace H : (coset_CheckTable.l2 k2 l0 x6_2 x45_2 y167 l0 (l0.length : Int) x45_2 (rd_L1 l0 x45_2) ((rd_L1 l0 x45_2).length : Int) 0) = some r := by first | (rw [hy167]; with_reducible exact H) | (have H2_ := (Option.bind_some _ _).symm.trans H; rw [hy167]; with_reducible exact H2_) | (have H2_ := (Option.bind_some _ _).symm.trans H; with_reducible exact H2_) | with_reducible exact H | (rw [hy167]; exact H) | exact H
                              have Ny167 := Aside0.mk hy167
                              clear hy167
                              have H' := Aside0.mk H
                              clear H
                              have p166 : 0 ≤ (x45_2 : Int) := of_decide_eq_true (by first | (with_reducible assumption) | assumption)
                              have q166 : x45_2 < (l0.length : Int) := of_decide_eq_true (by first | (with_reducible assumption) | assumption)
                              obtain ⟨ad166, A166_0, c166_0, e166, hx166_0, hl166_0, hi166_0⟩ := at_L1 HR0.out x45_2 p166 q166
                              cases e166
                              try (replace hx166_0 := (HB.out.cell (World.block_lt_of_cell? w _ hx166_0)).trans hx166_0)
                              have HR166_0 := Aside0.mk hi166_0
                              have HC166_0 := Aside0.mk hl166_0
                              clear hi166_0 hl166_0
                              replace p166 := eq_true p166
                              replace q166 := eq_true q166
                              go_wp2_with (first | ((with_reducible refine gate_dst (N := 52) rfl ?_); refine Kd.R_make Kd.bool _ 4 rfl (N := 52) rfl 93 _ _ rfl (l0.length : Int) rfl rfl Try.underlying93 (.bool false) 1 info4 rfl (by decide) (by omega) false (ok := fun _ => True) (okp := fun _ => True) rfl (fun _ hk => hk) trivial (of_decide_eq_true (by first | (with_reducible assumption) | assumption)) (Nat.le_trans (Nat.mul_le_mul_right _ (of_decide_eq_true (by first | (with_reducible assumption) | assumption) : (l0.length : Int).toNat ≤ 281474976710656)) (by omega)) (Below.refl _ _) (Nat.le_refl _) ?_; intro v168 w16 ho17 hb hg_ hnew_; clear hg_ hnew_; (first | rw [← Ny167.out] at ho17 | (simp only [Int.reduceToNat] at ho17; rw [← Ny167.out] at ho17)); have n0_ := Aside0.mk (Kd.R_lower ho17 (below_size (by repeat (first | (with_reducible first | exact HB.out | apply below_alloc | apply pw_below_drewN | apply below_drew1) | exact HB.out)))); have n1_ := Aside0.mk (below_step (by repeat (first | (with_reducible first | exact HB.out | apply below_alloc | apply pw_below_drewN | apply below_drew1) | exact HB.out)) hb); clear HB; have HO169 := n0_; have HB := n1_; clear n0_ n1_; clear hb ho17))
                              repeat (apply wp_label; go_wp2)
                              repeat (go_quiet (first | ((with_reducible refine gate_dst (N := 52) rfl ?_); refine Kd.R_make Kd.bool _ 4 rfl (N := 52) rfl 93 _ _ rfl (l0.length : Int) rfl rfl Try.underlying93 (.bool false) 1 info4 rfl (by decide) (by omega) false (ok := fun _ => True) (okp := fun _ => True) rfl (fun _ hk => hk) trivial (of_decide_eq_true (by first | (with_reducible assumption) | assumption)) (Nat.le_trans (Nat.mul_le_mul_right _ (of_decide_eq_true (by first | (with_reducible assumption) | assumption) : (l0.length : Int).toNat ≤ 281474976710656)) (by omega)) (Below.refl _ _) (Nat.le_refl _) ?_; intro v168 w16 ho17 hb hg_ hnew_; clear hg_ hnew_; (first | rw [← Ny167.out] at ho17 | (simp only [Int.reduceToNat] at ho17; rw [← Ny167.out] at ho17)); have n0_ := Aside0.mk (Kd.R_lower ho17 (below_size (by repeat (first | (with_reducible first | exact HB.out | apply below_alloc | apply pw_below_drewN | apply below_drew1) | exact HB.out)))); have n1_ := Aside0.mk (below_step (by repeat (first | (with_reducible first | exact HB.out | apply below_alloc | apply pw_below_drewN | apply below_drew1) | exact HB.out)) hb); clear HB; have HO169 := n0_; have HB := n1_; clear n0_ n1_; clear hb ho17)); try go_wp2_with (first | ((with_reducible refine gate_dst (N := 52) rfl ?_); refine Kd.R_make Kd.bool _ 4 rfl (N := 52) rfl 93 _ _ rfl (l0.length : Int) rfl rfl Try.underlying93 (.bool false) 1 info4 rfl (by decide) (by omega) false (ok := fun _ => True) (okp := fun _ => True) rfl (fun _ hk => hk) trivial (of_decide_eq_true (by first | (with_reducible assumption) | assumption)) (Nat.le_trans (Nat.mul_le_mul_right _ (of_decide_eq_true (by first | (with_reducible assumption) | assumption) : (l0.length : Int).toNat ≤ 281474976710656)) (by omega)) (Below.refl _ _) (Nat.le_refl _) ?_; intro v168 w16 ho17 hb hg_ hnew_; clear hg_ hnew_; (first | rw [← Ny167.out] at ho17 | (simp only [Int.reduceToNat] at ho17; rw [← Ny167.out] at ho17)); have n0_ := Aside0.mk (Kd.R_lower ho17 (below_size (by repeat (first | (with_reducible first | exact HB.out | apply below_alloc | apply pw_below_drewN | apply below_drew1) | exact HB.out)))); have n1_ := Aside0.mk (below_step (by repeat (first | (with_reducible first | exact HB.out | apply below_alloc | apply pw_below_drewN | apply below_drew1) | exact HB.out)) hb); clear HB; have HO169 := n0_; have HB := n1_; clear n0_ n1_; clear hb ho17)))
                              go_loopg [6, 55] k2 (fun kq v6 v55 w' => ∃ (x6_3 : Bool) (x9_3 : List Bool) (x55_3 : Int), v6 = .bool x6_3 ∧ v55 = .int .i64 x55_3 ∧ Aside0 (coset_CheckTable.l2 kq l0 x6_3 x45_2 x9_3 l0 (l0.length : Int) x45_2 (rd_L1 l0 x45_2) ((rd_L1 l0 x45_2).length : Int) x55_3 = some r) ∧ Aside0 (kq ≤ k2) ∧ Aside0 (Kd.R Kd.bool 4 w' w.heap.size (fun _ => True) v168 x9_3) ∧ Aside0 (Below w.heap.size w w'))
                              case atStart => exact ⟨(x6_2), (y167), (0), (by first | rfl | (simp; done) | (simp [*]; done)), (by first | rfl | (simp; done) | (simp [*]; done)), H', ⟨Nat.le_refl _⟩, ⟨by (with_reducible repeat (first | apply Kd.R_alloc | apply Kd.R_drewN | apply Kd.R_drew)); exact HO169.out⟩, ⟨by repeat (first | (with_reducible first | exact HB.out | apply below_alloc | apply pw_below_drewN | apply below_drew1) | exact HB.out)⟩⟩
                              case round =>
                                clear H'
                                try clear c1
                                try clear p1
                                try clear q1
                                try clear hx1
                                try clear c2
                                try clear c2b0
                                try clear c2b1
                                try clear c2b2
                                try clear p2
                                try clear c3
                                try clear c3b0
                                try clear c3b1
                                try clear c4
                                try clear c4b0
                                try clear c5
                                try clear c5b0
                                try clear c6
                                try clear c6b0
                                try clear p6
                                try clear c7
                                try clear c7b0
                                try clear c7b1
                                try clear c7b2
                                try clear c9
                                try clear c9b0
                                try clear c9b1
                                try clear c11
                                try clear c11b0
                                try clear c12
                                try clear c12b0
                                try clear c13
                                try clear c13b0
                                try clear c14
                                try clear c14b0
                                try clear c14b1
                                try clear c15
                                try clear c15b0
                                try clear c15b1
                                try clear c16
                                try clear p16
                                try clear q16
                                try clear hx16
                                try clear hx164_0
                                try clear hx166_0
                                try clear p1
                                try clear p164
                                try clear p166
                                try clear p2
                                try clear p6
                                try clear q1
                                try clear q164
                                try clear q166
                                obtain ⟨x6_3, x9_3, x55_3, rfl, rfl, HA, HK3, HO_9, HB⟩ := hrel
                                cases gk with
                                | zero => exact absurd HA.out (by simp [coset_CheckTable.l2])
                                | succ k3 =>
                                  have H := HA.out
                                  clear HA
                                  simp only [coset_CheckTable.l2] at H
                                  by_cases c18 : x55_3 < ((rd_L1 l0 x45_2).length : Int)
                                  · rw [if_pos c18] at H
                                    have c18b0 : decide (x55_3 < ((rd_L1 l0 x45_2).length : Int)) = true := decide_eq_true c18
                                    clear c18
                                    by_cases c19 : 0 ≤ x55_3
                                    · rw [if_pos c19] at H
                                      have c19b0 : decide (0 ≤ x55_3) = true := decide_eq_true c19
                                      clear c19
                                      by_cases c20 : x55_3 < ((rd_L1 l0 x45_2).length : Int)
                                      · rw [if_pos c20] at H
                                        have c20b0 : decide (x55_3 < ((rd_L1 l0 x45_2).length : Int)) = true := decide_eq_true c20
                                        clear c20
                                        by_cases c21 : 0 ≤ (rd (rd_L1 l0 x45_2) x55_3)
                                        · rw [if_pos c21] at H
                                          have c21b0 : decide (0 ≤ (rd (rd_L1 l0 x45_2) x55_3)) = true := decide_eq_true c21
                                          clear c21
                                          by_cases c22 : (rd (rd_L1 l0 x45_2) x55_3) < (x9_3.length : Int)
                                          · rw [if_pos c22] at H
                                            have c22b0 : decide ((rd (rd_L1 l0 x45_2) x55_3) < (x9_3.length : Int)) = true := decide_eq_true c22
                                            clear c22
                                            obtain ⟨bq23, hbq23⟩ : ∃ b_ : Bool, b_ = (rdOf false x9_3 (rd (rd_L1 l0 x45_2) x55_3)) := ⟨_, rfl⟩
                                            replace H : (if bq23 = true then (coset_CheckTable.j3 k3 l0 false) else (if x45_2 = 0 then (if (rd (rd_L1 l0 x45_2) x55_3) = x55_3 then (if x55_3 = 0 then (if (rd (rd_L1 l0 x45_2) x55_3) = x45_2 then (coset_CheckTable.l2 k3 l0 x6_3 x45_2 (x9_3.set ((rd (rd_L1 l0 x45_2) x55_3) : Int).toNat true) l0 (l0.length : Int) x45_2 (rd_L1 l0 x45_2) ((rd_L1 l0 x45_2).length : Int) (wrap64 (x55_3 + 1))) else (coset_CheckTable.j3 k3 l0 false)) else (coset_CheckTable.l2 k3 l0 x6_3 x45_2 (x9_3.set ((rd (rd_L1 l0 x45_2) x55_3) : Int).toNat true) l0 (l0.length : Int) x45_2 (rd_L1 l0 x45_2) ((rd_L1 l0 x45_2).length : Int) (wrap64 (x55_3 + 1)))) else (coset_CheckTable.j3 k3 l0 false)) else (if x55_3 = 0 then (if (rd (rd_L1 l0 x45_2) x55_3) = x45_2 then (coset_CheckTable.l2 k3 l0 x6_3 x45_2 (x9_3.set ((rd (rd_L1 l0 x45_2) x55_3) : Int).toNat true) l0 (l0.length : Int) x45_2 (rd_L1 l0 x45_2) ((rd_L1 l0 x45_2).length : Int) (wrap64 (x55_3 + 1))) else (coset_CheckTable.j3 k3 l0 false)) else (coset_CheckTable.l2 k3 l0 x6_3 x45_2 (x9_3.set ((rd (rd_L1 l0 x45_2) x55_3) : Int).toNat true) l0 (l0.length : Int) x45_2 (rd_L1 l0 x45_2) ((rd_L1 l0 x45_2).length : Int) (wrap64 (x55_3 + 1)))))) = some r := by rw [← hbq23] at H; exact H
                                            have Nbq23 := Aside0.mk hbq23
                                            clear hbq23
                                            by_cases c24 : bq23 = true
                                            · subst c24
                                              have H1 : (coset_CheckTable.j3 k3 l0 false) = some r := by rw [if_pos rfl] at H; exact H
                                              clear H
                                              have H := H1
                                              clear H1
                                              have H' := Aside0.mk H
                                              clear H
                                              have p170 : 0 ≤ (x55_3 : Int) := of_decide_eq_true (by first | (with_reducible assumption) | assumption)
                                              have q170 : x55_3 < ((rd_L1 l0 x45_2).length : Int) := of_decide_eq_true (by first | (with_reducible assumption) | assumption)
                                              obtain ⟨ad170, e170, hx170_0⟩ := Kd.at_int HR166_0.out x55_3 p170 q170
                                              cases e170
                                              try (replace hx170_0 := (HB.out.cell (World.block_lt_of_cell? w _ hx170_0)).trans hx170_0)
                                              replace p170 := eq_true p170
                                              replace q170 := eq_true q170
                                              obtain ⟨Ao25, co25, eo25⟩ := Kd.R_slice HO_9.out
                                              subst eo25
                                              have p171 : 0 ≤ ((rd (rd_L1 l0 x45_2) x55_3) : Int) := of_decide_eq_true (by first | (with_reducible assumption) | assumption)
                                              have q171 : (rd (rd_L1 l0 x45_2) x55_3) < (x9_3.length : Int) := of_decide_eq_true (by first | (with_reducible assumption) | assumption)
                                              obtain ⟨ad171, e171, hx171_0⟩ := Kd.at_bool (Kd.R_reads' HO_9.out).2.2 (rd (rd_L1 l0 x45_2) x55_3) p171 q171
                                              (try rw [← Nbq23.out] at hx171_0)
                                              cases e171
                                              replace p171 := eq_true p171
                                              replace q171 := eq_true q171
                                              go_wp2
                                              repeat (apply wp_label; go_wp2)
                                              repeat (go_quiet (fail); try go_wp2)
                                              go_meet
                                              case rel => exact ⟨_, (false), (by first | rfl | (simp; done) | (simp [*]; done)), H', ⟨by have := HK1.out; have := HK2.out; have := HK3.out; first | omega | exact Nat.le_refl _⟩, ⟨by repeat (first | (with_reducible first | exact HB.out | apply below_alloc | apply pw_below_drewN | apply below_drew1) | exact HB.out)⟩⟩
                                            · replace c24 := Bool.eq_false_iff.mpr c24
                                              subst c24
                                              have H1 : (if x45_2 = 0 then (if (rd (rd_L1 l0 x45_2) x55_3) = x55_3 then (if x55_3 = 0 then (if (rd (rd_L1 l0 x45_2) x55_3) = x45_2 then (coset_CheckTable.l2 k3 l0 x6_3 x45_2 (x9_3.set ((rd (rd_L1 l0 x45_2) x55_3) : Int).toNat true) l0 (l0.length : Int) x45_2 (rd_L1 l0 x45_2) ((rd_L1 l0 x45_2).length : Int) (wrap64 (x55_3 + 1))) else (coset_CheckTable.j3 k3 l0 false)) else (coset_CheckTable.l2 k3 l0 x6_3 x45_2 (x9_3.set ((rd (rd_L1 l0 x45_2) x55_3) : Int).toNat true) l0 (l0.length : Int) x45_2 (rd_L1 l0 x45_2) ((rd_L1 l0 x45_2).length : Int) (wrap64 (x55_3 + 1)))) else (coset_CheckTable.j3 k3 l0 false)) else (if x55_3 = 0 then (if (rd (rd_L1 l0 x45_2) x55_3) = x45_2 then (coset_CheckTable.l2 k3 l0 x6_3 x45_2 (x9_3.set ((rd (rd_L1 l0 x45_2) x55_3) : Int).toNat true) l0 (l0.length : Int) x45_2 (rd_L1 l0 x45_2) ((rd_L1 l0 x45_2).length : Int) (wrap64 (x55_3 + 1))) else (coset_CheckTable.j3 k3 l0 false)) else (coset_CheckTable.l2 k3 l0 x6_3 x45_2 (x9_3.set ((rd (rd_L1 l0 x45_2) x55_3) : Int).toNat true) l0 (l0.length : Int) x45_2 (rd_L1 l0 x45_2) ((rd_L1 l0 x45_2).length : Int) (wrap64 (x55_3 + 1))))) = some r := by rw [if_neg (show ¬ (false = true) by decide)] at H; exact H
                                              clear H
                                              have H := H1
                                              clear H1
                                              by_cases c26 : x45_2 = 0
                                              · rw [if_pos c26] at H
                                                have c26b0 : (x45_2 == 0) = true := beq_iff_eq.mpr c26
                                                have c26b1 : (x45_2 != 0) = false := bne_eq_false_iff_eq.mpr c26
                                                clear c26
                                                by_cases c27 : (rd (rd_L1 l0 x45_2) x55_3) = x55_3
                                                · rw [if_pos c27] at H
                                                  have c27b0 : ((rd (rd_L1 l0 x45_2) x55_3) == x55_3) = true := beq_iff_eq.mpr c27
                                                  have c27b1 : ((rd (rd_L1 l0 x45_2) x55_3) != x55_3) = false := bne_eq_false_iff_eq.mpr c27
                                                  clear c27
                                                  by_cases c28 : x55_3 = 0
                                                  · rw [if_pos c28] at H
                                                    have c28b0 : (x55_3 == 0) = true := beq_iff_eq.mpr c28
                                                    have c28b1 : (x55_3 != 0) = false := bne_eq_false_iff_eq.mpr c28
                                                    clear c28
                                                    by_cases c29 : (rd (rd_L1 l0 x45_2) x55_3) = x45_2
                                                    · rw [if_pos c29] at H
                                                      have c29b0 : ((rd (rd_L1 l0 x45_2) x55_3) == x45_2) = true := beq_iff_eq.mpr c29
                                                      have c29b1 : ((rd (rd_L1 l0 x45_2) x55_3) != x45_2) = false := bne_eq_false_iff_eq.mpr c29
                                                      clear c29
                                                      obtain ⟨y172, hy172⟩ : ∃ y_ : List Bool, y_ = (x9_3.set ((rd (rd_L1 l0 x45_2) x55_3) : Int).toNat true) := ⟨_, rfl⟩
                                                      replace H : (coset_CheckTable.l2 k3 l0 x6_3 x45_2 y172 l0 (l0.length : Int) x45_2 (rd_L1 l0 x45_2) ((rd_L1 l0 x45_2).length : Int) (wrap64 (x55_3 + 1))) = some r := by first | (rw [hy172]; with_reducible exact H) | (have H2_ := (Option.bind_some _ _).symm.trans H; rw [hy172]; with_reducible exact H2_) | (have H2_ := (Option.bind_some _ _).symm.trans H; with_reducible exact H2_) | with_reducible exact H | (rw [hy172]; exact H) | exact H
                                                      have Ny172 := Aside0.mk hy172
                                                      clear hy172
                                                      have H' := Aside0.mk H
                                                      clear H
                                                      have p170 : 0 ≤ (x55_3 : Int) := of_decide_eq_true (by first | (with_reducible assumption) | assumption)
                                                      have q170 : x55_3 < ((rd_L1 l0 x45_2).length : Int) := of_decide_eq_true (by first | (with_reducible assumption) | assumption)
                                                      obtain ⟨ad170, e170, hx170_0⟩ := Kd.at_int HR166_0.out x55_3 p170 q170
                                                      cases e170
                                                      try (replace hx170_0 := (HB.out.cell (World.block_lt_of_cell? w _ hx170_0)).trans hx170_0)
                                                      replace p170 := eq_true p170
                                                      replace q170 := eq_true q170
                                                      obtain ⟨Ao31, co31, eo31⟩ := Kd.R_slice HO_9.out
                                                      subst eo31
                                                      have p171 : 0 ≤ ((rd (rd_L1 l0 x45_2) x55_3) : Int) := of_decide_eq_true (by first | (with_reducible assumption) | assumption)
                                                      have q171 : (rd (rd_L1 l0 x45_2) x55_3) < (x9_3.length : Int) := of_decide_eq_true (by first | (with_reducible assumption) | assumption)
                                                      obtain ⟨ad171, e171, hx171_0⟩ := Kd.at_bool (Kd.R_reads' HO_9.out).2.2 (rd (rd_L1 l0 x45_2) x55_3) p171 q171
                                                      (try rw [← Nbq23.out] at hx171_0)
                                                      cases e171
                                                      replace p171 := eq_true p171
                                                      replace q171 := eq_true q171
                                                      have p30 : 0 ≤ ((rd (rd_L1 l0 x45_2) x55_3) : Int) := of_decide_eq_true (by first | (with_reducible assumption) | assumption)
                                                      have q30 : ((rd (rd_L1 l0 x45_2) x55_3) : Int) < ((x9_3.length : Int) : Int) := of_decide_eq_true (by first | (with_reducible assumption) | assumption)
                                                      obtain ⟨go30, co30, eo30, gb30, gl30, cl30, HG30⟩ := Kd.R_form HO_9.out (by omega)
                                                      (first | cases eo30 | (injection eo30 with ea_ en_ ec_; (first | subst ea_ | (injection ea_ with ea_; subst ea_)); subst ec_; clear en_))
                                                      have GB30 := Aside0.mk gb30
                                                      have GG30 := Aside0.mk HG30
                                                      clear gb30 gl30 HG30
                                                      (first | simp only [add_plain] at hx171_0 | skip)
                                                      obtain ⟨hx30_0, hf30_0⟩ := Kd.R_celln false HO_9.out ((rd (rd_L1 l0 x45_2) x55_3) : Int) p30 q30
                                                      replace p30 := eq_true p30
                                                      replace q30 := eq_true q30
                                                      have HP32 := Kd.R_putg HO_9.out ((rd (rd_L1 l0 x45_2) x55_3) : Int) true
                                                      go_wp2_with (first | ((with_reducible refine gate_store (t := 4) (p := 84) rfl ?_); (try (rw [drewN_self wr]; generalize hq_ : World.drewN wr _ = wr; have n0_ := Aside0.mk (Kd.R_at hq_ HO_9.out); have n1_ := Aside0.mk (below_at hq_ HB.out); clear hq_ HO_9 HB; have HO_9 := n0_; have HB := n1_; clear n0_ n1_; (try (obtain ⟨hy32_, hz32_⟩ := Kd.R_celln 0 HO_9.out ((rd (rd_L1 l0 x45_2) x55_3) : Int) (of_decide_eq_true (by first | (with_reducible assumption) | assumption)) (of_decide_eq_true (by first | (with_reducible assumption) | assumption)))); (try (have HP32 := Kd.R_putg HO_9.out ((rd (rd_L1 l0 x45_2) x55_3) : Int) true)))); refine store_event (t := 4) (p := 84) (v := ?vo_w33) (w1 := (wr.setCell ⟨go30, ((rd (rd_L1 l0 x45_2) x55_3) : Int).toNat, none⟩ (.bool true))) ?hg ?ho ?hn ?hr ?_; (case ho => rfl); (case hg => rfl); (case hn => rfl); (case hr => first | (go_simp; done) | (go_simp; rfl)); intro w33 hw; have hg : wr.grownBy w33 (some go30) := (by rw [hw]; exact HP32.2); have hp_ : Kd.R Kd.bool 4 w33 w.heap.size (fun _ => True) (.slice (some ⟨go30, 0, none⟩) x9_3.length co31) y172 := (by rw [hw, Ny172.out]; exact HP32.1); clear HP32; have n0_ := Aside0.mk (hp_); have n1_ := Aside0.mk ((by rw [hw]; exact below_set (HB.out) GB30.out : Below w.heap.size w w33)); clear HO_9; clear HB; have HO_9 := n0_; have HB := n1_; clear n0_ n1_; clear hg hw hp_))
                                                      repeat (apply wp_label; go_wp2)
                                                      repeat (go_quiet (first | ((with_reducible refine gate_store (t := 4) (p := 84) rfl ?_); (try (rw [drewN_self wr]; generalize hq_ : World.drewN wr _ = wr; have n0_ := Aside0.mk (Kd.R_at hq_ HO_9.out); have n1_ := Aside0.mk (below_at hq_ HB.out); clear hq_ HO_9 HB; have HO_9 := n0_; have HB := n1_; clear n0_ n1_; (try (obtain ⟨hy32_, hz32_⟩ := Kd.R_celln 0 HO_9.out ((rd (rd_L1 l0 x45_2) x55_3) : Int) (of_decide_eq_true (by first | (with_reducible assumption) | assumption)) (of_decide_eq_true (by first | (with_reducible assumption) | assumption)))); (try (have HP32 := Kd.R_putg HO_9.out ((rd (rd_L1 l0 x45_2) x55_3) : Int) true)))); refine store_event (t := 4) (p := 84) (v := ?vo_w33) (w1 := (wr.setCell ⟨go30, ((rd (rd_L1 l0 x45_2) x55_3) : Int).toNat, none⟩ (.bool true))) ?hg ?ho ?hn ?hr ?_; (case ho => rfl); (case hg => rfl); (case hn => rfl); (case hr => first | (go_simp; done) | (go_simp; rfl)); intro w33 hw; have hg : wr.grownBy w33 (some go30) := (by rw [hw]; exact HP32.2); have hp_ : Kd.R Kd.bool 4 w33 w.heap.size (fun _ => True) (.slice (some ⟨go30, 0, none⟩) x9_3.length co31) y172 := (by rw [hw, Ny172.out]; exact HP32.1); clear HP32; have n0_ := Aside0.mk (hp_); have n1_ := Aside0.mk ((by rw [hw]; exact below_set (HB.out) GB30.out : Below w.heap.size w w33)); clear HO_9; clear HB; have HO_9 := n0_; have HB := n1_; clear n0_ n1_; clear hg hw hp_)); try go_wp2_with (first | ((with_reducible refine gate_store (t := 4) (p := 84) rfl ?_); (try (rw [drewN_self wr]; generalize hq_ : World.drewN wr _ = wr; have n0_ := Aside0.mk (Kd.R_at hq_ HO_9.out); have n1_ := Aside0.mk (below_at hq_ HB.out); clear hq_ HO_9 HB; have HO_9 := n0_; have HB := n1_; clear n0_ n1_; (try (obtain ⟨hy32_, hz32_⟩ := Kd.R_celln 0 HO_9.out ((rd (rd_L1 l0 x45_2) x55_3) : Int) (of_decide_eq_true (by first | (with_reducible assumption) | assumption)) (of_decide_eq_true (by first | (with_reducible assumption) | assumption)))); (try (have HP32 := Kd.R_putg HO_9.out ((rd (rd_L1 l0 x45_2) x55_3) : Int) true)))); refine store_event (t := 4) (p := 84) (v := ?vo_w33) (w1 := (wr.setCell ⟨go30, ((rd (rd_L1 l0 x45_2) x55_3) : Int).toNat, none⟩ (.bool true))) ?hg ?ho ?hn ?hr ?_; (case ho => rfl); (case hg => rfl); (case hn => rfl); (case hr => first | (go_simp; done) | (go_simp; rfl)); intro w33 hw; have hg : wr.grownBy w33 (some go30) := (by rw [hw]; exact HP32.2); have hp_ : Kd.R Kd.bool 4 w33 w.heap.size (fun _ => True) (.slice (some ⟨go30, 0, none⟩) x9_3.length co31) y172 := (by rw [hw, Ny172.out]; exact HP32.1); clear HP32; have n0_ := Aside0.mk (hp_); have n1_ := Aside0.mk ((by rw [hw]; exact below_set (HB.out) GB30.out : Below w.heap.size w w33)); clear HO_9; clear HB; have HO_9 := n0_; have HB := n1_; clear n0_ n1_; clear hg hw hp_)))
                                                      go_roundg k3
                                                      case measure => have := HK1.out; have := HK2.out; have := HK3.out; omega
                                                      case rel => exact ⟨(x6_3), (y172), (wrap64 (x55_3 + 1)), (by first | rfl | (simp; done) | (simp [*]; done)), (by first | rfl | (simp; done) | (simp [*]; done)), H', ⟨by have := HK1.out; have := HK2.out; have := HK3.out; omega⟩, ⟨by (with_reducible repeat (first | apply Kd.R_alloc | apply Kd.R_drewN | apply Kd.R_drew)); exact HO_9.out⟩, ⟨by repeat (first | (with_reducible first | exact HB.out | apply below_alloc | apply pw_below_drewN | apply below_drew1) | exact HB.out)⟩⟩
                                                    · rw [if_neg c29] at H
                                                      have c29b0 : ((rd (rd_L1 l0 x45_2) x55_3) == x45_2) = false := beq_eq_false_iff_ne.mpr c29
                                                      have c29b1 : ((rd (rd_L1 l0 x45_2) x55_3) != x45_2) = true := bne_iff_ne.mpr c29
                                                      have H' := Aside0.mk H
                                                      clear H
                                                      have p170 : 0 ≤ (x55_3 : Int) := of_decide_eq_true (by first | (with_reducible assumption) | assumption)
                                                      have q170 : x55_3 < ((rd_L1 l0 x45_2).length : Int) := of_decide_eq_true (by first | (with_reducible assumption) | assumption)
                                                      obtain ⟨ad170, e170, hx170_0⟩ := Kd.at_int HR166_0.out x55_3 p170 q170
                                                      cases e170
                                                      try (replace hx170_0 := (HB.out.cell (World.block_lt_of_cell? w _ hx170_0)).trans hx170_0)
                                                      replace p170 := eq_true p170
                                                      replace q170 := eq_true q170
                                                      obtain ⟨Ao34, co34, eo34⟩ := Kd.R_slice HO_9.out
                                                      subst eo34
                                                      have p171 : 0 ≤ ((rd (rd_L1 l0 x45_2) x55_3) : Int) := of_decide_eq_true (by first | (with_reducible assumption) | assumption)
                                                      have q171 : (rd (rd_L1 l0 x45_2) x55_3) < (x9_3.length : Int) := of_decide_eq_true (by first | (with_reducible assumption) | assumption)
                                                      obtain ⟨ad171, e171, hx171_0⟩ := Kd.at_bool (Kd.R_reads' HO_9.out).2.2 (rd (rd_L1 l0 x45_2) x55_3) p171 q171
                                                      (try rw [← Nbq23.out] at hx171_0)
                                                      cases e171
                                                      replace p171 := eq_true p171
                                                      replace q171 := eq_true q171
                                                      go_wp2
                                                      repeat (apply wp_label; go_wp2)
                                                      repeat (go_quiet (fail); try go_wp2)
                                                      go_meet
                                                      case rel => exact ⟨_, (false), (by first | rfl | (simp; done) | (simp [*]; done)), H', ⟨by have := HK1.out; have := HK2.out; have := HK3.out; first | omega | exact Nat.le_refl _⟩, ⟨by repeat (first | (with_reducible first | exact HB.out | apply below_alloc | apply pw_below_drewN | apply below_drew1) | exact HB.out)⟩⟩
                                                  · rw [if_neg c28] at H
                                                    have c28b0 : (x55_3 == 0) = false := beq_eq_false_iff_ne.mpr c28
                                                    have c28b1 : (x55_3 != 0) = true := bne_iff_ne.mpr c28
                                                    obtain ⟨y173, hy173⟩ : ∃ y_ : List Bool, y_ = (x9_3.set ((rd (rd_L1 l0 x45_2) x55_3) : Int).toNat true) := ⟨_, rfl⟩
                                                    replace H : (coset_CheckTable.l2 k3 l0 x6_3 x45_2 y173 l0 (l0.length : Int) x45_2 (rd_L1 l0 x45_2) ((rd_L1 l0 x45_2).length : Int) (wrap64 (x55_3 + 1))) = some r := by first | (rw [hy173]; with_reducible exact H) | (have H2_ := (Option.bind_some _ _).symm.trans H; rw [hy173]; with_reducible exact H2_) | (have H2_ := (Option.bind_some _ _).symm.trans H; with_reducible exact H2_) | with_reducible exact H | (rw [hy173]; exact H) | exact H
                                                    have Ny173 := Aside0.mk hy173
                                                    clear hy173
                                                    have H' := Aside0.mk H
                                                    clear H
                                                    have p170 : 0 ≤ (x55_3 : Int) := of_decide_eq_true (by first | (with_reducible assumption) | assumption)
                                                    have q170 : x55_3 < ((rd_L1 l0 x45_2).length : Int) := of_decide_eq_true (by first | (with_reducible assumption) | assumption)
                                                    obtain ⟨ad170, e170, hx170_0⟩ := Kd.at_int HR166_0.out x55_3 p170 q170
                                                    cases e170
                                                    try (replace hx170_0 := (HB.out.cell (World.block_lt_of_cell? w _ hx170_0)).trans hx170_0)
                                                    replace p170 := eq_true p170
                                                    replace q170 := eq_true q170
                                                    obtain ⟨Ao36, co36, eo36⟩ := Kd.R_slice HO_9.out
                                                    subst eo36
                                                    have p171 : 0 ≤ ((rd (rd_L1 l0 x45_2) x55_3) : Int) := of_decide_eq_true (by first | (with_reducible assumption) | assumption)
                                                    have q171 : (rd (rd_L1 l0 x45_2) x55_3) < (x9_3.length : Int) := of_decide_eq_true (by first | (with_reducible assumption) | assumption)
                                                    obtain ⟨ad171, e171, hx171_0⟩ := Kd.at_bool (Kd.R_reads' HO_9.out).2.2 (rd (rd_L1 l0 x45_2) x55_3) p171 q171
                                                    (try rw [← Nbq23.out] at hx171_0)
                                                    cases e171
                                                    replace p171 := eq_true p171
                                                    replace q171 := eq_true q171
                                                    have p35 : 0 ≤ ((rd (rd_L1 l0 x45_2) x55_3) : Int) := of_decide_eq_true (by first | (with_reducible assumption) | assumption)
                                                    have q35 : ((rd (rd_L1 l0 x45_2) x55_3) : Int) < ((x9_3.length : Int) : Int) := of_decide_eq_true (by first | (with_reducible assumption) | assumption)
                                                    obtain ⟨go35, co35, eo35, gb35, gl35, cl35, HG35⟩ := Kd.R_form HO_9.out (by omega)
                                                    (first | cases eo35 | (injection eo35 with ea_ en_ ec_; (first | subst ea_ | (injection ea_ with ea_; subst ea_)); subst ec_; clear en_))
                                                    have GB35 := Aside0.mk gb35
                                                    have GG35 := Aside0.mk HG35
                                                    clear gb35 gl35 HG35
                                                    (first | simp only [add_plain] at hx171_0 | skip)
                                                    obtain ⟨hx35_0, hf35_0⟩ := Kd.R_celln false HO_9.out ((rd (rd_L1 l0 x45_2) x55_3) : Int) p35 q35
                                                    replace p35 := eq_true p35
                                                    replace q35 := eq_true q35
                                                    have HP37 := Kd.R_putg HO_9.out ((rd (rd_L1 l0 x45_2) x55_3) : Int) true
                                                    go_wp2_with (first | ((with_reducible refine gate_store (t := 4) (p := 84) rfl ?_); (try (rw [drewN_self wr]; generalize hq_ : World.drewN wr _ = wr; have n0_ := Aside0.mk (Kd.R_at hq_ HO_9.out); have n1_ := Aside0.mk (below_at hq_ HB.out); clear hq_ HO_9 HB; have HO_9 := n0_; have HB := n1_; clear n0_ n1_; (try (obtain ⟨hy37_, hz37_⟩ := Kd.R_celln 0 HO_9.out ((rd (rd_L1 l0 x45_2) x55_3) : Int) (of_decide_eq_true (by first | (with_reducible assumption) | assumption)) (of_decide_eq_true (by first | (with_reducible assumption) | assumption)))); (try (have HP37 := Kd.R_putg HO_9.out ((rd (rd_L1 l0 x45_2) x55_3) : Int) true)))); refine store_event (t := 4) (p := 84) (v := ?vo_w38) (w1 := (wr.setCell ⟨go35, ((rd (rd_L1 l0 x45_2) x55_3) : Int).toNat, none⟩ (.bool true))) ?hg ?ho ?hn ?hr ?_; (case ho => rfl); (case hg => rfl); (case hn => rfl); (case hr => first | (go_simp; done) | (go_simp; rfl)); intro w38 hw; have hg : wr.grownBy w38 (some go35) := (by rw [hw]; exact HP37.2); have hp_ : Kd.R Kd.bool 4 w38 w.heap.size (fun _ => True) (.slice (some ⟨go35, 0, none⟩) x9_3.length co36) y173 := (by rw [hw, Ny173.out]; exact HP37.1); clear HP37; have n0_ := Aside0.mk (hp_); have n1_ := Aside0.mk ((by rw [hw]; exact below_set (HB.out) GB35.out : Below w.heap.size w w38)); clear HO_9; clear HB; have HO_9 := n0_; have HB := n1_; clear n0_ n1_; clear hg hw hp_))
                                                    repeat (apply wp_label; go_wp2)
                                                    repeat (go_quiet (first | ((with_reducible refine gate_store (t := 4) (p := 84) rfl ?_); (try (rw [drewN_self wr]; generalize hq_ : World.drewN wr _ = wr; have n0_ := Aside0.mk (Kd.R_at hq_ HO_9.out); have n1_ := Aside0.mk (below_at hq_ HB.out); clear hq_ HO_9 HB; have HO_9 := n0_; have HB := n1_; clear n0_ n1_; (try (obtain ⟨hy37_, hz37_⟩ := Kd.R_celln 0 HO_9.out ((rd (rd_L1 l0 x45_2) x55_3) : Int) (of_decide_eq_true (by first | (with_reducible assumption) | assumption)) (of_decide_eq_true (by first | (with_reducible assumption) | assumption)))); (try (have HP37 := Kd.R_putg HO_9.out ((rd (rd_L1 l0 x45_2) x55_3) : Int) true)))); refine store_event (t := 4) (p := 84) (v := ?vo_w38) (w1 := (wr.setCell ⟨go35, ((rd (rd_L1 l0 x45_2) x55_3) : Int).toNat, none⟩ (.bool true))) ?hg ?ho ?hn ?hr ?_; (case ho => rfl); (case hg => rfl); (case hn => rfl); (case hr => first | (go_simp; done) | (go_simp; rfl)); intro w38 hw; have hg : wr.grownBy w38 (some go35) := (by rw [hw]; exact HP37.2); have hp_ : Kd.R Kd.bool 4 w38 w.heap.size (fun _ => True) (.slice (some ⟨go35, 0, none⟩) x9_3.length co36) y173 := (by rw [hw, Ny173.out]; exact HP37.1); clear HP37; have n0_ := Aside0.mk (hp_); have n1_ := Aside0.mk ((by rw [hw]; exact below_set (HB.out) GB35.out : Below w.heap.size w w38)); clear HO_9; clear HB; have HO_9 := n0_; have HB := n1_; clear n0_ n1_; clear hg hw hp_)); try go_wp2_with (first | ((with_reducible refine gate_store (t := 4) (p := 84) rfl ?_); (try (rw [drewN_self wr]; generalize hq_ : World.drewN wr _ = wr; have n0_ := Aside0.mk (Kd.R_at hq_ HO_9.out); have n1_ := Aside0.mk (below_at hq_ HB.out); clear hq_ HO_9 HB; have HO_9 := n0_; have HB := n1_; clear n0_ n1_; (try (obtain ⟨hy37_, hz37_⟩ := Kd.R_celln 0 HO_9.out ((rd (rd_L1 l0 x45_2) x55_3) : Int) (of_decide_eq_true (by first | (with_reducible assumption) | assumption)) (of_decide_eq_true (by first | (with_reducible assumption) | assumption)))); (try (have HP37 := Kd.R_putg HO_9.out ((rd (rd_L1 l0 x45_2) x55_3) : Int) true)))); refine store_event (t := 4) (p := 84) (v := ?vo_w38) (w1 := (wr.setCell ⟨go35, ((rd (rd_L1 l0 x45_2) x55_3) : Int).toNat, none⟩ (.bool true))) ?hg ?ho ?hn ?hr ?_; (case ho => rfl); (case hg => rfl); (case hn => rfl); (case hr => first | (go_simp; done) | (go_simp; rfl)); intro w38 hw; have hg : wr.grownBy w38 (some go35) := (by rw [hw]; exact HP37.2); have hp_ : Kd.R Kd.bool 4 w38 w.heap.size (fun _ => True) (.slice (some ⟨go35, 0, none⟩) x9_3.length co36) y173 := (by rw [hw, Ny173.out]; exact HP37.1); clear HP37; have n0_ := Aside0.mk (hp_); have n1_ := Aside0.mk ((by rw [hw]; exact below_set (HB.out) GB35.out : Below w.heap.size w w38)); clear HO_9; clear HB; have HO_9 := n0_; have HB := n1_; clear n0_ n1_; clear hg hw hp_)))
                                                    go_roundg k3
                                                    case measure => have := HK1.out; have := HK2.out; have := HK3.out; omega
                                                    case rel => exact ⟨(x6_3), (y173), (wrap64 (x55_3 + 1)), (by first | rfl | (simp; done) | (simp [*]; done)), (by first | rfl | (simp; done) | (simp [*]; done)), H', ⟨by have := HK1.out; have := HK2.out; have := HK3.out; omega⟩, ⟨by (with_reducible repeat (first | apply Kd.R_alloc | apply Kd.R_drewN | apply Kd.R_drew)); exact HO_9.out⟩, ⟨by repeat (first | (with_reducible first | exact HB.out | apply below_alloc | apply pw_below_drewN | apply below_drew1) | exact HB.out)⟩⟩
                                                · rw [if_neg c27] at H
                                                  have c27b0 : ((rd (rd_L1 l0 x45_2) x55_3) == x55_3) = false := beq_eq_false_iff_ne.mpr c27
                                                  have c27b1 : ((rd (rd_L1 l0 x45_2) x55_3) != x55_3) = true := bne_iff_ne.mpr c27
                                                  have H' := Aside0.mk H
                                                  clear H
                                                  have p170 : 0 ≤ (x55_3 : Int) := of_decide_eq_true (by first | (with_reducible assumption) | assumption)
                                                  have q170 : x55_3 < ((rd_L1 l0 x45_2).length : Int) := of_decide_eq_true (by first | (with_reducible assumption) | assumption)
                                                  obtain ⟨ad170, e170, hx170_0⟩ := Kd.at_int HR166_0.out x55_3 p170 q170
                                                  cases e170
                                                  try (replace hx170_0 := (HB.out.cell (World.block_lt_of_cell? w _ hx170_0)).trans hx170_0)
                                                  replace p170 := eq_true p170
                                                  replace q170 := eq_true q170
                                                  obtain ⟨Ao39, co39, eo39⟩ := Kd.R_slice HO_9.out
                                                  subst eo39
                                                  have p171 : 0 ≤ ((rd (rd_L1 l0 x45_2) x55_3) : Int) := of_decide_eq_true (by first | (with_reducible assumption) | assumption)
                                                  have q171 : (rd (rd_L1 l0 x45_2) x55_3) < (x9_3.length : Int) := of_decide_eq_true (by first | (with_reducible assumption) | assumption)
                                                  obtain ⟨ad171, e171, hx171_0⟩ := Kd.at_bool (Kd.R_reads' HO_9.out).2.2 (rd (rd_L1 l0 x45_2) x55_3) p171 q171
                                                  (try rw [← Nbq23.out] at hx171_0)
                                                  cases e171
                                                  replace p171 := eq_true p171
                                                  replace q171 := eq_true q171
                                                  go_wp2
                                                  repeat (apply wp_label; go_wp2)
                                                  repeat (go_quiet (fail); try go_wp2)
                                                  go_meet
                                                  case rel => exact ⟨_, (false), (by first | rfl | (simp; done) | (simp [*]; done)), H', ⟨by have := HK1.out; have := HK2.out; have := HK3.out; first | omega | exact Nat.le_refl _⟩, ⟨by repeat (first | (with_reducible first | exact HB.out | apply below_alloc | apply pw_below_drewN | apply below_drew1) | exact HB.out)⟩⟩
                                              · rw [if_neg c26] at H
                                                have c26b0 : (x45_2 == 0) = false := beq_eq_false_iff_ne.mpr c26
                                                have c26b1 : (x45_2 != 0) = true := bne_iff_ne.mpr c26
                                                by_cases c40 : x55_3 = 0
                                                · rw [if_pos c40] at H
                                                  have c40b0 : (x55_3 == 0) = true := beq_iff_eq.mpr c40
                                                  have c40b1 : (x55_3 != 0) = false := bne_eq_false_iff_eq.mpr c40
                                                  clear c40
                                                  by_cases c41 : (rd (rd_L1 l0 x45_2) x55_3) = x45_2
                                                  · rw [if_pos c41] at H
                                                    have c41b0 : ((rd (rd_L1 l0 x45_2) x55_3) == x45_2) = true := beq_iff_eq.mpr c41
                                                    have c41b1 : ((rd (rd_L1 l0 x45_2) x55_3) != x45_2) = false := bne_eq_false_iff_eq.mpr c41
                                                    clear c41
                                                    obtain ⟨y174, hy174⟩ : ∃ y_ : List Bool, y_ = (x9_3.set ((rd (rd_L1 l0 x45_2) x55_3) : Int).toNat true) := ⟨_, rfl⟩
                                                    replace H : (coset_CheckTable.l2 k3 l0 x6_3 x45_2 y174 l0 (l0.length : Int) x45_2 (rd_L1 l0 x45_2) ((rd_L1 l0 x45_2).length : Int) (wrap64 (x55_3 + 1))) = some r := by first | (rw [hy174]; with_reducible exact H) | (have H2_ := (Option.bind_some _ _).symm.trans H; rw [hy174]; with_reducible exact H2_) | (have H2_ := (Option.bind_some _ _).symm.trans H; with_reducible exact H2_) | with_reducible exact H | (rw [hy174]; exact H) | exact H
                                                    have Ny174 := Aside0.mk hy174
                                                    clear hy174
                                                    have H' := Aside0.mk H
                                                    clear H
                                                    have p170 : 0 ≤ (x55_3 : Int) := of_decide_eq_true (by first | (with_reducible assumption) | assumption)
                                                    have q170 : x55_3 < ((rd_L1 l0 x45_2).length : Int) := of_decide_eq_true (by first | (with_reducible assumption) | assumption)
                                                    obtain ⟨ad170, e170, hx170_0⟩ := Kd.at_int HR166_0.out x55_3 p170 q170
                                                    cases e170
                                                    try (replace hx170_0 := (HB.out.cell (World.block_lt_of_cell? w _ hx170_0)).trans hx170_0)
                                                    replace p170 := eq_true p170
                                                    replace q170 := eq_true q170
                                                    obtain ⟨Ao43, co43, eo43⟩ := Kd.R_slice HO_9.out
                                                    subst eo43
                                                    have p171 : 0 ≤ ((rd (rd_L1 l0 x45_2) x55_3) : Int) := of_decide_eq_true (by first | (with_reducible assumption) | assumption)
                                                    have q171 : (rd (rd_L1 l0 x45_2) x55_3) < (x9_3.length : Int) := of_decide_eq_true (by first | (with_reducible assumption) | assumption)
                                                    obtain ⟨ad171, e171, hx171_0⟩ := Kd.at_bool (Kd.R_reads' HO_9.out).2.2 (rd (rd_L1 l0 x45_2) x55_3) p171 q171
                                                    (try rw [← Nbq23.out] at hx171_0)
                                                    cases e171
                                                    replace p171 := eq_true p171
                                                    replace q171 := eq_true q171
                                                    have p42 : 0 ≤ ((rd (rd_L1 l0 x45_2) x55_3) : Int) := of_decide_eq_true (by first | (with_reducible assumption) | assumption)
                                                    have q42 : ((rd (rd_L1 l0 x45_2) x55_3) : Int) < ((x9_3.length : Int) : Int) := of_decide_eq_true (by first | (with_reducible assumption) | assumption)
                                                    obtain ⟨go42, co42, eo42, gb42, gl42, cl42, HG42⟩ := Kd.R_form HO_9.out (by omega)
                                                    (first | cases eo42 | (injection eo42 with ea_ en_ ec_; (first | subst ea_ | (injection ea_ with ea_; subst ea_)); subst ec_; clear en_))
                                                    have GB42 := Aside0.mk gb42
                                                    have GG42 := Aside0.mk HG42
                                                    clear gb42 gl42 HG42
                                                    (first | simp only [add_plain] at hx171_0 | skip)
                                                    obtain ⟨hx42_0, hf42_0⟩ := Kd.R_celln false HO_9.out ((rd (rd_L1 l0 x45_2) x55_3) : Int) p42 q42
                                                    replace p42 := eq_true p42
                                                    replace q42 := eq_true q42
                                                    have HP44 := Kd.R_putg HO_9.out ((rd (rd_L1 l0 x45_2) x55_3) : Int) true
                                                    go_wp2_with (first | ((with_reducible refine gate_store (t := 4) (p := 84) rfl ?_); (try (rw [drewN_self wr]; generalize hq_ : World.drewN wr _ = wr; have n0_ := Aside0.mk (Kd.R_at hq_ HO_9.out); have n1_ := Aside0.mk (below_at hq_ HB.out); clear hq_ HO_9 HB; have HO_9 := n0_; have HB := n1_; clear n0_ n1_; (try (obtain ⟨hy44_, hz44_⟩ := Kd.R_celln 0 HO_9.out ((rd (rd_L1 l0 x45_2) x55_3) : Int) (of_decide_eq_true (by first | (with_reducible assumption) | assumption)) (of_decide_eq_true (by first | (with_reducible assumption) | assumption)))); (try (have HP44 := Kd.R_putg HO_9.out ((rd (rd_L1 l0 x45_2) x55_3) : Int) true)))); refine store_event (t := 4) (p := 84) (v := ?vo_w45) (w1 := (wr.setCell ⟨go42, ((rd (rd_L1 l0 x45_2) x55_3) : Int).toNat, none⟩ (.bool true))) ?hg ?ho ?hn ?hr ?_; (case ho => rfl); (case hg => rfl); (case hn => rfl); (case hr => first | (go_simp; done) | (go_simp; rfl)); intro w45 hw; have hg : wr.grownBy w45 (some go42) := (by rw [hw]; exact HP44.2); have hp_ : Kd.R Kd.bool 4 w45 w.heap.size (fun _ => True) (.slice (some ⟨go42, 0, none⟩) x9_3.length co43) y174 := (by rw [hw, Ny174.out]; exact HP44.1); clear HP44; have n0_ := Aside0.mk (hp_); have n1_ := Aside0.mk ((by rw [hw]; exact below_set (HB.out) GB42.out : Below w.heap.size w w45)); clear HO_9; clear HB; have HO_9 := n0_; have HB := n1_; clear n0_ n1_; clear hg hw hp_))
                                                    repeat (apply wp_label; go_wp2)
                                                    repeat (go_quiet (first | ((with_reducible refine gate_store (t := 4) (p := 84) rfl ?_); (try (rw [drewN_self wr]; generalize hq_ : World.drewN wr _ = wr; have n0_ := Aside0.mk (Kd.R_at hq_ HO_9.out); have n1_ := Aside0.mk (below_at hq_ HB.out); clear hq_ HO_9 HB; have HO_9 := n0_; have HB := n1_; clear n0_ n1_; (try (obtain ⟨hy44_, hz44_⟩ := Kd.R_celln 0 HO_9.out ((rd (rd_L1 l0 x45_2) x55_3) : Int) (of_decide_eq_true (by first | (with_reducible assumption) | assumption)) (of_decide_eq_true (by first | (with_reducible assumption) | assumption)))); (try (have HP44 := Kd.R_putg HO_9.out ((rd (rd_L1 l0 x45_2) x55_3) : Int) true)))); refine store_event (t := 4) (p := 84) (v := ?vo_w45) (w1 := (wr.setCell ⟨go42, ((rd (rd_L1 l0 x45_2) x55_3) : Int).toNat, none⟩ (.bool true))) ?hg ?ho ?hn ?hr ?_; (case ho => rfl); (case hg => rfl); (case hn => rfl); (case hr => first | (go_simp; done) | (go_simp; rfl)); intro w45 hw; have hg : wr.grownBy w45 (some go42) := (by rw [hw]; exact HP44.2); have hp_ : Kd.R Kd.bool 4 w45 w.heap.size (fun _ => True) (.slice (some ⟨go42, 0, none⟩) x9_3.length co43) y174 := (by rw [hw, Ny174.out]; exact HP44.1); clear HP44; have n0_ := Aside0.mk (hp_); have n1_ := Aside0.mk ((by rw [hw]; exact below_set (HB.out) GB42.out : Below w.heap.size w w45)); clear HO_9; clear HB; have HO_9 := n0_; have HB := n1_; clear n0_ n1_; clear hg hw hp_)); try go_wp2_with (first | ((with_reducible refine gate_store (t := 4) (p := 84) rfl ?_); (try (rw [drewN_self wr]; generalize hq_ : World.drewN wr _ = wr; have n0_ := Aside0.mk (Kd.R_at hq_ HO_9.out); have n1_ := Aside0.mk (below_at hq_ HB.out); clear hq_ HO_9 HB; have HO_9 := n0_; have HB := n1_; clear n0_ n1_; (try (obtain ⟨hy44_, hz44_⟩ := Kd.R_celln 0 HO_9.out ((rd (rd_L1 l0 x45_2) x55_3) : Int) (of_decide_eq_true (by first | (with_reducible assumption) | assumption)) (of_decide_eq_true (by first | (with_reducible assumption) | assumption)))); (try (have HP44 := Kd.R_putg HO_9.out ((rd (rd_L1 l0 x45_2) x55_3) : Int) true)))); refine store_event (t := 4) (p := 84) (v := ?vo_w45) (w1 := (wr.setCell ⟨go42, ((rd (rd_L1 l0 x45_2) x55_3) : Int).toNat, none⟩ (.bool true))) ?hg ?ho ?hn ?hr ?_; (case ho => rfl); (case hg => rfl); (case hn => rfl); (case hr => first | (go_simp; done) | (go_simp; rfl)); intro w45 hw; have hg : wr.grownBy w45 (some go42) := (by rw [hw]; exact HP44.2); have hp_ : Kd.R Kd.bool 4 w45 w.heap.size (fun _ => True) (.slice (some ⟨go42, 0, none⟩) x9_3.length co43) y174 := (by rw [hw, Ny174.out]; exact HP44.1); clear HP44; have n0_ := Aside0.mk (hp_); have n1_ := Aside0.mk ((by rw [hw]; exact below_set (HB.out) GB42.out : Below w.heap.size w w45)); clear HO_9; clear HB; have HO_9 := n0_; have HB := n1_; clear n0_ n1_; clear hg hw hp_)))
                                                    go_roundg k3
                                                    case measure => have := HK1.out; have := HK2.out; have := HK3.out; omega
                                                    case rel => exact ⟨(x6_3), (y174), (wrap64 (x55_3 + 1)), (by first | rfl | (simp; done) | (simp [*]; done)), (by first | rfl | (simp; done) | (simp [*]; done)), H', ⟨by have := HK1.out; have := HK2.out; have := HK3.out; omega⟩, ⟨by (with_reducible repeat (first | apply Kd.R_alloc | apply Kd.R_drewN | apply Kd.R_drew)); exact HO_9.out⟩, ⟨by repeat (first | (with_reducible first | exact HB.out | apply below_alloc | apply pw_below_drewN | apply below_drew1) | exact HB.out)⟩⟩
                                                  · rw [if_neg c41] at H
                                                    have c41b0 : ((rd (rd_L1 l0 x45_2) x55_3) == x45_2) = false := beq_eq_false_iff_ne.mpr c41
                                                    have c41b1 : ((rd (rd_L1 l0 x45_2) x55_3) != x45_2) = true := bne_iff_ne.mpr c41
                                                    have H' := Aside0.mk H
                                                    clear H
                                                    have p170 : 0 ≤ (x55_3 : Int) := of_decide_eq_true (by first | (with_reducible assumption) | assumption)
                                                    have q170 : x55_3 < ((rd_L1 l0 x45_2).length : Int) := of_decide_eq_true (by first | (with_reducible assumption) | assumption)
                                                    obtain ⟨ad170, e170, hx170_0⟩ := Kd.at_int HR166_0.out x55_3 p170 q170
                                                    cases e170
                                                    try (replace hx170_0 := (HB.out.cell (World.block_lt_of_cell? w _ hx170_0)).trans hx170_0)
                                                    replace p170 := eq_true p170
                                                    replace q170 := eq_true q170
                                                    obtain ⟨Ao46, co46, eo46⟩ := Kd.R_slice HO_9.out
                                                    subst eo46
                                                    have p171 : 0 ≤ ((rd (rd_L1 l0 x45_2) x55_3) : Int) := of_decide_eq_true (by first | (with_reducible assumption) | assumption)
                                                    have q171 : (rd (rd_L1 l0 x45_2) x55_3) < (x9_3.length : Int) := of_decide_eq_true (by first | (with_reducible assumption) | assumption)
                                                    obtain ⟨ad171, e171, hx171_0⟩ := Kd.at_bool (Kd.R_reads' HO_9.out).2.2 (rd (rd_L1 l0 x45_2) x55_3) p171 q171
                                                    (try rw [← Nbq23.out] at hx171_0)
                                                    cases e171
                                                    replace p171 := eq_true p171
                                                    replace q171 := eq_true q171
                                                    go_wp2
                                                    repeat (apply wp_label; go_wp2)
                                                    repeat (go_quiet (fail); try go_wp2)
                                                    go_meet
                                                    case rel => exact ⟨_, (false), (by first | rfl | (simp; done) | (simp [*]; done)), H', ⟨by have := HK1.out; have := HK2.out; have := HK3.out; first | omega | exact Nat.le_refl _⟩, ⟨by repeat (first | (with_reducible first | exact HB.out | apply below_alloc | apply pw_below_drewN | apply below_drew1) | exact HB.out)⟩⟩
                                                · rw [if_neg c40] at H
                                                  have c40b0 : (x55_3 == 0) = false := beq_eq_false_iff_ne.mpr c40
                                                  have c40b1 : (x55_3 != 0) = true := bne_iff_ne.mpr c40
                                                  obtain ⟨y175, hy175⟩ : ∃ y_ : List Bool, y_ = (x9_3.set ((rd (rd_L1 l0 x45_2) x55_3) : Int).toNat true) := ⟨_, rfl⟩
                                                  replace H : (coset_CheckTable.l2 k3 l0 x6_3 x45_2 y175 l0 (l0.length : Int) x45_2 (rd_L1 l0 x45_2) ((rd_L1 l0 x45_2).length : Int) (wrap64 (x55_3 + 1))) = some r := by first | (rw [hy175]; with_reducible exact H) | (have H2_ := (Option.bind_some _ _).symm.trans H; rw [hy175]; with_reducible exact H2_) | (have H2_ := (Option.bind_some _ _).symm.trans H; with_reducible exact H2_) | with_reducible exact H | (rw [hy175]; exact H) | exact H
                                                  have Ny175 := Aside0.mk hy175
                                                  clear hy175
                                                  have H' := Aside0.mk H
                                                  clear H
                                                  have p170 : 0 ≤ (x55_3 : Int) := of_decide_eq_true (by first | (with_reducible assumption) | assumption)
                                                  have q170 : x55_3 < ((rd_L1 l0 x45_2).length : Int) := of_decide_eq_true (by first | (with_reducible assumption) | assumption)
                                                  obtain ⟨ad170, e170, hx170_0⟩ := Kd.at_int HR166_0.out x55_3 p170 q170
                                                  cases e170
                                                  try (replace hx170_0 := (HB.out.cell (World.block_lt_of_cell? w _ hx170_0)).trans hx170_0)
                                                  replace p170 := eq_true p170
                                                  replace q170 := eq_true q170
                                                  obtain ⟨Ao48, co48, eo48⟩ := Kd.R_slice HO_9.out
                                                  subst eo48
                                                  have p171 : 0 ≤ ((rd (rd_L1 l0 x45_2) x55_3) : Int) := of_decide_eq_true (by first | (with_reducible assumption) | assumption)
                                                  have q171 : (rd (rd_L1 l0 x45_2) x55_3) < (x9_3.length : Int) := of_decide_eq_true (by first | (with_reducible assumption) | assumption)
                                                  obtain ⟨ad171, e171, hx171_0⟩ := Kd.at_bool (Kd.R_reads' HO_9.out).2.2 (rd (rd_L1 l0 x45_2) x55_3) p171 q171
                                                  (try rw [← Nbq23.out] at hx171_0)
                                                  cases e171
                                                  replace p171 := eq_true p171
                                                  replace q171 := eq_true q171
                                                  have p47 : 0 ≤ ((rd (rd_L1 l0 x45_2) x55_3) : Int) := of_decide_eq_true (by first | (with_reducible assumption) | assumption)
                                                  have q47 : ((rd (rd_L1 l0 x45_2) x55_3) : Int) < ((x9_3.length : Int) : Int) := of_decide_eq_true (by first | (with_reducible assumption) | assumption)
                                                  obtain ⟨go47, co47, eo47, gb47, gl47, cl47, HG47⟩ := Kd.R_form HO_9.out (by omega)
                                                  (first | cases eo47 | (injection eo47 with ea_ en_ ec_; (first | subst ea_ | (injection ea_ with ea_; subst ea_)); subst ec_; clear en_))
                                                  have GB47 := Aside0.mk gb47
                                                  have GG47 := Aside0.mk HG47
                                                  clear gb47 gl47 HG47
                                                  (first | simp only [add_plain] at hx171_0 | skip)
                                                  obtain ⟨hx47_0, hf47_0⟩ := Kd.R_celln false HO_9.out ((rd (rd_L1 l0 x45_2) x55_3) : Int) p47 q47
                                                  replace p47 := eq_true p47
                                                  replace q47 := eq_true q47
                                                  have HP49 := Kd.R_putg HO_9.out ((rd (rd_L1 l0 x45_2) x55_3) : Int) true
                                                  go_wp2_with (first | ((with_reducible refine gate_store (t := 4) (p := 84) rfl ?_); (try (rw [drewN_self wr]; generalize hq_ : World.drewN wr _ = wr; have n0_ := Aside0.mk (Kd.R_at hq_ HO_9.out); have n1_ := Aside0.mk (below_at hq_ HB.out); clear hq_ HO_9 HB; have HO_9 := n0_; have HB := n1_; clear n0_ n1_; (try (obtain ⟨hy49_, hz49_⟩ := Kd.R_celln 0 HO_9.out ((rd (rd_L1 l0 x45_2) x55_3) : Int) (of_decide_eq_true (by first | (with_reducible assumption) | assumption)) (of_decide_eq_true (by first | (with_reducible assumption) | assumption)))); (try (have HP49 := Kd.R_putg HO_9.out ((rd (rd_L1 l0 x45_2) x55_3) : Int) true)))); refine store_event (t := 4) (p := 84) (v := ?vo_w50) (w1 := (wr.setCell ⟨go47, ((rd (rd_L1 l0 x45_2) x55_3) : Int).toNat, none⟩ (.bool true))) ?hg ?ho ?hn ?hr ?_; (case ho => rfl); (case hg => rfl); (case hn => rfl); (case hr => first | (go_simp; done) | (go_simp; rfl)); intro w50 hw; have hg : wr.grownBy w50 (some go47) := (by rw [hw]; exact HP49.2); have hp_ : Kd.R Kd.bool 4 w50 w.heap.size (fun _ => True) (.slice (some ⟨go47, 0, none⟩) x9_3.length co48) y175 := (by rw [hw, Ny175.out]; exact HP49.1); clear HP49; have n0_ := Aside0.mk (hp_); have n1_ := Aside0.mk ((by rw [hw]; exact below_set (HB.out) GB47.out : Below w.heap.size w w50)); clear HO_9; clear HB; have HO_9 := n0_; have HB := n1_; clear n0_ n1_; clear hg hw hp_))
                                                  repeat (apply wp_label; go_wp2)
                                                  repeat (go_quiet (first | ((with_reducible refine gate_store (t := 4) (p := 84) rfl ?_); (try (rw [drewN_self wr]; generalize hq_ : World.drewN wr _ = wr; have n0_ := Aside0.mk (Kd.R_at hq_ HO_9.out); have n1_ := Aside0.mk (below_at hq_ HB.out); clear hq_ HO_9 HB; have HO_9 := n0_; have HB := n1_; clear n0_ n1_; (try (obtain ⟨hy49_, hz49_⟩ := Kd.R_celln 0 HO_9.out ((rd (rd_L1 l0 x45_2) x55_3) : Int) (of_decide_eq_true (by first | (with_reducible assumption) | assumption)) (of_decide_eq_true (by first | (with_reducible assumption) | assumption)))); (try (have HP49 := Kd.R_putg HO_9.out ((rd (rd_L1 l0 x45_2) x55_3) : Int) true)))); refine store_event (t := 4) (p := 84) (v := ?vo_w50) (w1 := (wr.setCell ⟨go47, ((rd (rd_L1 l0 x45_2) x55_3) : Int).toNat, none⟩ (.bool true))) ?hg ?ho ?hn ?hr ?_; (case ho => rfl); (case hg => rfl); (case hn => rfl); (case hr => first | (go_simp; done) | (go_simp; rfl)); intro w50 hw; have hg : wr.grownBy w50 (some go47) := (by rw [hw]; exact HP49.2); have hp_ : Kd.R Kd.bool 4 w50 w.heap.size (fun _ => True) (.slice (some ⟨go47, 0, none⟩) x9_3.length co48) y175 := (by rw [hw, Ny175.out]; exact HP49.1); clear HP49; have n0_ := Aside0.mk (hp_); have n1_ := Aside0.mk ((by rw [hw]; exact below_set (HB.out) GB47.out : Below w.heap.size w w50)); clear HO_9; clear HB; have HO_9 := n0_; have HB := n1_; clear n0_ n1_; clear hg hw hp_)); try go_wp2_with (first | ((with_reducible refine gate_store (t := 4) (p := 84) rfl ?_); (try (rw [drewN_self wr]; generalize hq_ : World.drewN wr _ = wr; have n0_ := Aside0.mk (Kd.R_at hq_ HO_9.out); have n1_ := Aside0.mk (below_at hq_ HB.out); clear hq_ HO_9 HB; have HO_9 := n0_; have HB := n1_; clear n0_ n1_; (try (obtain ⟨hy49_, hz49_⟩ := Kd.R_celln 0 HO_9.out ((rd (rd_L1 l0 x45_2) x55_3) : Int) (of_decide_eq_true (by first | (with_reducible assumption) | assumption)) (of_decide_eq_true (by first | (with_reducible assumption) | assumption)))); (try (have HP49 := Kd.R_putg HO_9.out ((rd (rd_L1 l0 x45_2) x55_3) : Int) true)))); refine store_event (t := 4) (p := 84) (v := ?vo_w50) (w1 := (wr.setCell ⟨go47, ((rd (rd_L1 l0 x45_2) x55_3) : Int).toNat, none⟩ (.bool true))) ?hg ?ho ?hn ?hr ?_; (case ho => rfl); (case hg => rfl); (case hn => rfl); (case hr => first | (go_simp; done) | (go_simp; rfl)); intro w50 hw; have hg : wr.grownBy w50 (some go47) := (by rw [hw]; exact HP49.2); have hp_ : Kd.R Kd.bool 4 w50 w.heap.size (fun _ => True) (.slice (some ⟨go47, 0, none⟩) x9_3.length co48) y175 := (by rw [hw, Ny175.out]; exact HP49.1); clear HP49; have n0_ := Aside0.mk (hp_); have n1_ := Aside0.mk ((by rw [hw]; exact below_set (HB.out) GB47.out : Below w.heap.size w w50)); clear HO_9; clear HB; have HO_9 := n0_; have HB := n1_; clear n0_ n1_; clear hg hw hp_)))
                                                  go_roundg k3
                                                  case measure => have := HK1.out; have := HK2.out; have := HK3.out; omega
                                                  case rel => exact ⟨(x6_3), (y175), (wrap64 (x55_3 + 1)), (by first | rfl | (simp; done) | (simp [*]; done)), (by first | rfl | (simp; done) | (simp [*]; done)), H', ⟨by have := HK1.out; have := HK2.out; have := HK3.out; omega⟩, ⟨by (with_reducible repeat (first | apply Kd.R_alloc | apply Kd.R_drewN | apply Kd.R_drew)); exact HO_9.out⟩, ⟨by repeat (first | (with_reducible first | exact HB.out | apply below_alloc | apply pw_below_drewN | apply below_drew1) | exact HB.out)⟩⟩
                                          · rw [if_neg c22] at H
                                            exact absurd H (by simp)
                                        · rw [if_neg c21] at H
                                          exact absurd H (by simp)
                                      · rw [if_neg c20] at H
                                        exact absurd H (by simp)
                                    · rw [if_neg c19] at H
                                      exact absurd H (by simp)
                                  · rw [if_neg c18] at H
                                    have c18b0 : decide (x55_3 < ((rd_L1 l0 x45_2).length : Int)) = false := decide_eq_false c18
                                    clear c18
                                    have H' := Aside0.mk H
                                    clear H
                                    go_wp2
                                    repeat (apply wp_label; go_wp2)
                                    repeat (go_quiet (fail); try go_wp2)
                                    go_roundg k3
                                    case measure => have := HK1.out; have := HK2.out; have := HK3.out; omega
                                    case rel => exact ⟨(x6_3), (wrap64 (x45_2 + 1)), (by first | rfl | (simp; done) | (simp [*]; done)), (by first | rfl | (simp; done) | (simp [*]; done)), H', ⟨by have := HK1.out; have := HK2.out; have := HK3.out; omega⟩, ⟨by repeat (first | (with_reducible first | exact HB.out | apply below_alloc | apply pw_below_drewN | apply below_drew1) | exact HB.out)⟩⟩
                            · rw [if_neg c15] at H
                              exact absurd H (by simp)
                          · rw [if_neg c14] at H
                            exact absurd H (by simp)
                        · rw [if_neg c13] at H
                          exact absurd H (by simp)
                      · rw [if_neg c12] at H
                        exact absurd H (by simp)
                    · rw [if_neg c11] at H
                      have c11b0 : decide (x45_2 < (l0.length : Int)) = false := decide_eq_false c11
                      clear c11
                      (first | rw [c11b0] | (simp only [i64_w, i32_w]; rw [c11b0]) | skip)
                      have H' := Aside0.mk H
                      clear H
                      go_wp2
                      repeat (apply wp_label; go_wp2)
                      repeat (go_quiet (fail); try go_wp2)
                      go_meet
                      case rel => exact ⟨_, (x6_2), (by first | rfl | (simp; done) | (simp [*]; done)), H', ⟨by have := HK1.out; have := HK2.out; first | omega | exact Nat.le_refl _⟩, ⟨by repeat (first | (with_reducible first | exact HB.out | apply below_alloc | apply pw_below_drewN | apply below_drew1) | exact HB.out)⟩⟩
              case rest =>
                clear HC10
                try clear c1
                try clear p1
                try clear q1
                try clear hx1
                try clear c2
                try clear c2b0
                try clear c2b1
                try clear c2b2
                try clear p2
                try clear q2
                try clear c3
                try clear c3b0
                try clear c3b1
                try clear p3
                try clear q3
                try clear hx3
                try clear hf3
                try clear c4
                try clear c4b0
                try clear p4
                try clear q4
                try clear hx4
                try clear hf4
                try clear c5
                try clear c5b0
                try clear c6
                try clear c6b0
                try clear p6
                try clear c7
                try clear c7b0
                try clear c7b1
                try clear c7b2
                try clear c9
                try clear c9b0
                try clear c9b1
                try clear c11
                try clear c11b0
                try clear c12
                try clear c12b0
                try clear c13
                try clear c13b0
                try clear c14
                try clear c14b0
                try clear c14b1
                try clear c15
                try clear c15b0
                try clear c15b1
                try clear c16
                try clear p16
                try clear q16
                try clear hx16
                try clear p17
                try clear q17
                try clear hx17
                try clear c18
                try clear c18b0
                try clear c19
                try clear c19b0
                try clear c20
                try clear c20b0
                try clear c21
                try clear c21b0
                try clear c22
                try clear c22b0
                try clear q23
                try clear c24
                try clear c26
                try clear c26b0
                try clear c26b1
                try clear c27
                try clear c27b0
                try clear c27b1
                try clear c28
                try clear c28b0
                try clear c28b1
                try clear c29
                try clear c29b0
                try clear c29b1
                try clear p30
                try clear q30
                try clear hx30
                try clear hf30
                try clear p35
                try clear q35
                try clear hx35
                try clear hf35
                try clear c40
                try clear c40b0
                try clear c40b1
                try clear c41
                try clear c41b0
                try clear c41b1
                try clear p42
                try clear q42
                try clear hx42
                try clear hf42
                try clear p47
                try clear q47
                try clear hx47
                try clear hf47
                try clear hx164_0
                try clear hx166_0
                try clear hx170_0
                try clear hx171_0
                try clear hx30_0
                try clear hx35_0
                try clear hx42_0
                try clear hx47_0
                try clear p1
                try clear p16
                try clear p164
                try clear p166
                try clear p170
                try clear p171
                try clear p2
                try clear p30
                try clear p35
                try clear p42
                try clear p47
                try clear p6
                try clear q1
                try clear q16
                try clear q164
                try clear q166
                try clear q170
                try clear q171
                try clear q30
                try clear q35
                try clear q42
                try clear q47
                obtain ⟨kq, x6_9, rfl, HA, HJ9, HB⟩ := hcut
                cases kq with
                | zero => exact absurd HA.out (by simp [coset_CheckTable.j3])
                | succ kj9 =>
                  have H := HA.out
                  clear HA
                  simp only [coset_CheckTable.j3] at H
                  by_cases c51 : x6_9 = true
                  · subst c51
                    have H1 : (coset_CheckTable.l3 kj9 l0 l0 (l0.length : Int) 0) = some r := by rw [if_pos rfl] at H; exact H
                    clear H
                    have H := H1
                    clear H1
                    have H' := Aside0.mk H
                    clear H
                    go_wp2
                    repeat (apply wp_label; go_wp2)
                    repeat (go_quiet (fail); try go_wp2)
                    go_loopg [91] kj9 (fun kq v91 w' => ∃ (x91_3 : Int), v91 = .int .i64 x91_3 ∧ Aside0 (coset_CheckTable.l3 kq l0 l0 (l0.length : Int) x91_3 = some r) ∧ Aside0 (kq ≤ kj9) ∧ Aside0 (Below w.heap.size w w'))
                    case atStart => exact ⟨(0), (by first | rfl | (simp; done) | (simp [*]; done)), H', ⟨Nat.le_refl _⟩, ⟨by repeat (first | (with_reducible first | exact HB.out | apply below_alloc | apply pw_below_drewN | apply below_drew1) | exact HB.out)⟩⟩
                    case round =>
                      clear H'
                      try clear c1
                      try clear p1
                      try clear q1
                      try clear hx1
                      try clear c2
                      try clear c2b0
                      try clear c2b1
                      try clear c2b2
                      try clear p2
                      try clear q2
                      try clear c3
                      try clear c3b0
                      try clear c3b1
                      try clear p3
                      try clear q3
                      try clear hx3
                      try clear hf3
                      try clear c4
                      try clear c4b0
                      try clear p4
                      try clear q4
                      try clear hx4
                      try clear hf4
                      try clear c5
                      try clear c5b0
                      try clear c6
                      try clear c6b0
                      try clear p6
                      try clear c7
                      try clear c7b0
                      try clear c7b1
                      try clear c7b2
                      try clear c9
                      try clear c9b0
                      try clear c9b1
                      try clear c11
                      try clear c11b0
                      try clear c12
                      try clear c12b0
                      try clear c13
                      try clear c13b0
                      try clear c14
                      try clear c14b0
                      try clear c14b1
                      try clear c15
                      try clear c15b0
                      try clear c15b1
                      try clear c16
                      try clear p16
                      try clear q16
                      try clear hx16
                      try clear p17
                      try clear q17
                      try clear hx17
                      try clear c18
                      try clear c18b0
                      try clear c19
                      try clear c19b0
                      try clear c20
                      try clear c20b0
                      try clear c21
                      try clear c21b0
                      try clear c22
                      try clear c22b0
                      try clear q23
                      try clear c24
                      try clear c26
                      try clear c26b0
                      try clear c26b1
                      try clear c27
                      try clear c27b0
                      try clear c27b1
                      try clear c28
                      try clear c28b0
                      try clear c28b1
                      try clear c29
                      try clear c29b0
                      try clear c29b1
                      try clear p30
                      try clear q30
                      try clear hx30
                      try clear hf30
                      try clear p35
                      try clear q35
                      try clear hx35
                      try clear hf35
                      try clear c40
                      try clear c40b0
                      try clear c40b1
                      try clear c41
                      try clear c41b0
                      try clear c41b1
                      try clear p42
                      try clear q42
                      try clear hx42
                      try clear hf42
                      try clear p47
                      try clear q47
                      try clear hx47
                      try clear hf47
                      try clear c51
                      try clear hx164_0
                      try clear hx166_0
                      try clear hx170_0
                      try clear hx171_0
                      try clear hx30_0
                      try clear hx35_0
                      try clear hx42_0
                      try clear hx47_0
                      try clear p1
                      try clear p16
                      try clear p164
                      try clear p166
                      try clear p17
                      try clear p170
                      try clear p171
                      try clear p2
                      try clear p3
                      try clear p30
                      try clear p35
                      try clear p4
                      try clear p42
                      try clear p47
                      try clear p6
                      try clear q1
                      try clear q16
                      try clear q164
                      try clear q166
                      try clear q17
                      try clear q170
                      try clear q171
                      try clear q2
                      try clear q23
                      try clear q3
                      try clear q30
                      try clear q35
                      try clear q4
                      try clear q42
                      try clear q47
                      obtain ⟨x91_3, rfl, HA, HK3, HB⟩ := hrel
                      cases gk with
                      | zero => exact absurd HA.out (by simp [coset_CheckTable.l3])
                      | succ k3 =>
                        have H := HA.out
                        clear HA
                        simp only [coset_CheckTable.l3] at H
                        by_cases c52 : x91_3 < (l0.length : Int)
                        · rw [if_pos c52] at H
                          have c52b0 : decide (x91_3 < (l0.length : Int)) = true := decide_eq_true c52
                          clear c52
                          by_cases c53 : 0 ≤ x91_3
                          · rw [if_pos c53] at H
                            have c53b0 : decide (0 ≤ x91_3) = true := decide_eq_true c53
                            clear c53
                            by_cases c54 : x91_3 < (l0.length : Int)
                            · rw [if_pos c54] at H
                              have c54b0 : decide (x91_3 < (l0.length : Int)) = true := decide_eq_true c54
                              clear c54
                              have H' := Aside0.mk H
                              clear H
                              have p176 : 0 ≤ (x91_3 : Int) := of_decide_eq_true (by first | (with_reducible assumption) | assumption)
                              have q176 : x91_3 < (l0.length : Int) := of_decide_eq_true (by first | (with_reducible assumption) | assumption)
                              obtain ⟨ad176, A176_0, c176_0, e176, hx176_0, hl176_0, hi176_0⟩ := at_L1 HR0.out x91_3 p176 q176
                              cases e176
                              try (replace hx176_0 := (HB.out.cell (World.block_lt_of_cell? w _ hx176_0)).trans hx176_0)
                              have HR176_0 := Aside0.mk hi176_0
                              have HC176_0 := Aside0.mk hl176_0
                              clear hi176_0 hl176_0
                              replace p176 := eq_true p176
                              replace q176 := eq_true q176
                              go_wp2
                              repeat (apply wp_label; go_wp2)
                              repeat (go_quiet (fail); try go_wp2)
                              go_loopg [98] k3 (fun kq v98 w' => ∃ (x98_4 : Int), v98 = .int .i64 x98_4 ∧ Aside0 (coset_CheckTable.l4 kq l0 x91_3 l0 (l0.length : Int) x91_3 (rd_L1 l0 x91_3) ((rd_L1 l0 x91_3).length : Int) x98_4 = some r) ∧ Aside0 (kq ≤ k3) ∧ Aside0 (Below w.heap.size w w'))
                              case atStart => exact ⟨(0), (by first | rfl | (simp; done) | (simp [*]; done)), H', ⟨Nat.le_refl _⟩, ⟨by repeat (first | (with_reducible first | exact HB.out | apply below_alloc | apply pw_below_drewN | apply below_drew1) | exact HB.out)⟩⟩
                              case round =>
                                clear H'
                                try clear c1
                                try clear p1
                                try clear q1
                                try clear hx1
                                try clear c2
                                try clear c2b0
                                try clear c2b1
                                try clear c2b2
                                try clear p2
                                try clear q2
                                try clear c3
                                try clear c3b0
                                try clear c3b1
                                try clear p3
                                try clear q3
                                try clear hx3
                                try clear hf3
                                try clear c4
                                try clear c4b0
                                try clear p4
                                try clear q4
                                try clear hx4
                                try clear hf4
                                try clear c5
                                try clear c5b0
                                try clear c6
                                try clear c6b0
                                try clear p6
                                try clear c7
                                try clear c7b0
                                try clear c7b1
                                try clear c7b2
                                try clear c9
                                try clear c9b0
                                try clear c9b1
                                try clear c11
                                try clear c11b0
                                try clear c12
                                try clear c12b0
                                try clear c13
                                try clear c13b0
                                try clear c14
                                try clear c14b0
                                try clear c14b1
                                try clear c15
                                try clear c15b0
                                try clear c15b1
                                try clear c16
                                try clear p16
                                try clear q16
                                try clear hx16
                                try clear c17
                                try clear p17
                                try clear q17
                                try clear hx17
                                try clear c18
                                try clear c18b0
                                try clear c19
                                try clear c19b0
                                try clear c20
                                try clear c20b0
                                try clear c21
                                try clear c21b0
                                try clear c22
                                try clear c22b0
                                try clear q23
                                try clear c24
                                try clear c26
                                try clear c26b0
                                try clear c26b1
                                try clear c27
                                try clear c27b0
                                try clear c27b1
                                try clear c28
                                try clear c28b0
                                try clear c28b1
                                try clear c29
                                try clear c29b0
                                try clear c29b1
                                try clear p30
                                try clear q30
                                try clear hx30
                                try clear hf30
                                try clear p35
                                try clear q35
                                try clear hx35
                                try clear hf35
                                try clear c40
                                try clear c40b0
                                try clear c40b1
                                try clear c41
                                try clear c41b0
                                try clear c41b1
                                try clear p42
                                try clear q42
                                try clear hx42
                                try clear hf42
                                try clear p47
                                try clear q47
                                try clear hx47
                                try clear hf47
                                try clear c51
                                try clear c52
                                try clear c52b0
                                try clear c53
                                try clear c53b0
                                try clear c54
                                try clear c54b0
                                try clear hx164_0
                                try clear hx166_0
                                try clear hx170_0
                                try clear hx171_0
                                try clear hx176_0
                                try clear hx30_0
                                try clear hx35_0
                                try clear hx42_0
                                try clear hx47_0
                                try clear p1
                                try clear p16
                                try clear p164
                                try clear p166
                                try clear p17
                                try clear p170
                                try clear p171
                                try clear p176
                                try clear p2
                                try clear p3
                                try clear p30
                                try clear p35
                                try clear p4
                                try clear p42
                                try clear p47
                                try clear p6
                                try clear q1
                                try clear q16
                                try clear q164
                                try clear q166
                                try clear q17
                                try clear q170
                                try clear q171
                                try clear q176
                                try clear q2
                                try clear q23
                                try clear q3
                                try clear q30
                                try clear q35
                                try clear q4
                                try clear q42
                                try clear q47
                                obtain ⟨x98_4, rfl, HA, HK4, HB⟩ := hrel
                                cases gk with
                                | zero => exact absurd HA.out (by simp [coset_CheckTable.l4])
                                | succ k4 =>
                                  have H := HA.out
                                  clear HA
                                  simp only [coset_CheckTable.l4] at H
                                  by_cases c55 : x98_4 < ((rd_L1 l0 x91_3).length : Int)
                                  · rw [if_pos c55] at H
                                    have c55b0 : decide (x98_4 < ((rd_L1 l0 x91_3).length : Int)) = true := decide_eq_true c55
                                    clear c55
                                    by_cases c56 : 0 ≤ x98_4
                                    · rw [if_pos c56] at H
                                      have c56b0 : decide (0 ≤ x98_4) = true := decide_eq_true c56
                                      clear c56
                                      by_cases c57 : x98_4 < ((rd_L1 l0 x91_3).length : Int)
                                      · rw [if_pos c57] at H
                                        have c57b0 : decide (x98_4 < ((rd_L1 l0 x91_3).length : Int)) = true := decide_eq_true c57
                                        clear c57
                                        by_cases c58 : 0 ≤ (rd (rd_L1 l0 x91_3) x98_4)
                                        · rw [if_pos c58] at H
                                          have c58b0 : decide (0 ≤ (rd (rd_L1 l0 x91_3) x98_4)) = true := decide_eq_true c58
                                          clear c58
                                          by_cases c59 : (rd (rd_L1 l0 x91_3) x98_4) < (l0.length : Int)
                                          · rw [if_pos c59] at H
                                            have c59b0 : decide ((rd (rd_L1 l0 x91_3) x98_4) < (l0.length : Int)) = true := decide_eq_true c59
                                            clear c59
                                            have H' := Aside0.mk H
                                            clear H
                                            have p177 : 0 ≤ (x98_4 : Int) := of_decide_eq_true (by first | (with_reducible assumption) | assumption)
                                            have q177 : x98_4 < ((rd_L1 l0 x91_3).length : Int) := of_decide_eq_true (by first | (with_reducible assumption) | assumption)
                                            obtain ⟨ad177, e177, hx177_0⟩ := Kd.at_int HR176_0.out x98_4 p177 q177
                                            cases e177
                                            try (replace hx177_0 := (HB.out.cell (World.block_lt_of_cell? w _ hx177_0)).trans hx177_0)
                                            replace p177 := eq_true p177
                                            replace q177 := eq_true q177
                                            have p178 : 0 ≤ ((rd (rd_L1 l0 x91_3) x98_4) : Int) := of_decide_eq_true (by first | (with_reducible assumption) | assumption)
                                            have q178 : (rd (rd_L1 l0 x91_3) x98_4) < (l0.length : Int) := of_decide_eq_true (by first | (with_reducible assumption) | assumption)
                                            obtain ⟨ad178, A178_0, c178_0, e178, hx178_0, hl178_0, hi178_0⟩ := at_L1 HR0.out (rd (rd_L1 l0 x91_3) x98_4) p178 q178
                                            obtain rfl : ad176 = ad178 := (by injection e178)
                                            try (replace hx178_0 := (HB.out.cell (World.block_lt_of_cell? w _ hx178_0)).trans hx178_0)
                                            have HR178_0 := Aside0.mk hi178_0
                                            have HC178_0 := Aside0.mk hl178_0
                                            clear hi178_0 hl178_0
                                            replace p178 := eq_true p178
                                            replace q178 := eq_true q178
                                            go_wp2
                                            repeat (apply wp_label; go_wp2)
                                            repeat (go_quiet (fail); try go_wp2)
                                            go_loopg [108] k4 (fun kq v108 w' => ∃ (x108_5 : Int), v108 = .int .i64 x108_5 ∧ Aside0 (coset_CheckTable.l5 kq l0 x91_3 x98_4 l0 (l0.length : Int) x91_3 (rd_L1 l0 x91_3) ((rd_L1 l0 x91_3).length : Int) x98_4 (rd_L1 l0 (rd (rd_L1 l0 x91_3) x98_4)) ((rd_L1 l0 (rd (rd_L1 l0 x91_3) x98_4)).length : Int) x108_5 = some r) ∧ Aside0 (kq ≤ k4) ∧ Aside0 (Below w.heap.size w w'))
                                            case atStart => exact ⟨(0), (by first | rfl | (simp; done) | (simp [*]; done)), H', ⟨Nat.le_refl _⟩, ⟨by repeat (first | (with_reducible first | exact HB.out | apply below_alloc | apply pw_below_drewN | apply below_drew1) | exact HB.out)⟩⟩
                                            case round =>
                                              clear H'
                                              try clear c1
                                              try clear p1
                                              try clear q1
                                              try clear hx1
                                              try clear c2
                                              try clear c2b0
                                              try clear c2b1
                                              try clear c2b2
                                              try clear p2
                                              try clear q2
                                              try clear c3
                                              try clear c3b0
                                              try clear c3b1
                                              try clear p3
                                              try clear q3
                                              try clear hx3
                                              try clear hf3
                                              try clear c4
                                              try clear c4b0
                                              try clear p4
                                              try clear q4
                                              try clear hx4
                                              try clear hf4
                                              try clear c5
                                              try clear c5b0
                                              try clear c6
                                              try clear c6b0
                                              try clear p6
                                              try clear c7
                                              try clear c7b0
                                              try clear c7b1
                                              try clear c7b2
                                              try clear c9
                                              try clear c9b0
                                              try clear c9b1
                                              try clear c11
                                              try clear c11b0
                                              try clear c12
                                              try clear c12b0
                                              try clear c13
                                              try clear c13b0
                                              try clear c14
                                              try clear c14b0
                                              try clear c14b1
                                              try clear c15
                                              try clear c15b0
                                              try clear c15b1
                                              try clear c16
                                              try clear p16
                                              try clear q16
                                              try clear hx16
                                              try clear c17
                                              try clear p17
                                              try clear q17
                                              try clear hx17
                                              try clear c18
                                              try clear c18b0
                                              try clear c19
                                              try clear c19b0
                                              try clear c20
                                              try clear c20b0
                                              try clear c21
                                              try clear c21b0
                                              try clear c22
                                              try clear c22b0
                                              try clear q23
                                              try clear c24
                                              try clear c26
                                              try clear c26b0
                                              try clear c26b1
                                              try clear c27
                                              try clear c27b0
                                              try clear c27b1
                                              try clear c28
                                              try clear c28b0
                                              try clear c28b1
                                              try clear c29
                                              try clear c29b0
                                              try clear c29b1
                                              try clear p30
                                              try clear q30
                                              try clear hx30
                                              try clear hf30
                                              try clear p35
                                              try clear q35
                                              try clear hx35
                                              try clear hf35
                                              try clear c40
                                              try clear c40b0
                                              try clear c40b1
                                              try clear c41
                                              try clear c41b0
                                              try clear c41b1
                                              try clear p42
                                              try clear q42
                                              try clear hx42
                                              try clear hf42
                                              try clear p47
                                              try clear q47
                                              try clear hx47
                                              try clear hf47
                                              try clear c51
                                              try clear c52
                                              try clear c52b0
                                              try clear c53
                                              try clear c53b0
                                              try clear c54
                                              try clear c54b0
                                              try clear c55
                                              try clear c55b0
                                              try clear c56
                                              try clear c56b0
                                              try clear c57
                                              try clear c57b0
                                              try clear c58
                                              try clear c58b0
                                              try clear c59
                                              try clear c59b0
                                              try clear hx164_0
                                              try clear hx166_0
                                              try clear hx170_0
                                              try clear hx171_0
                                              try clear hx176_0
                                              try clear hx177_0
                                              try clear hx178_0
                                              try clear hx30_0
                                              try clear hx35_0
                                              try clear hx42_0
                                              try clear hx47_0
                                              try clear p1
                                              try clear p16
                                              try clear p164
                                              try clear p166
                                              try clear p17
                                              try clear p170
                                              try clear p171
                                              try clear p176
                                              try clear p177
                                              try clear p178
                                              try clear p2
                                              try clear p3
                                              try clear p30
                                              try clear p35
                                              try clear p4
                                              try clear p42
                                              try clear p47
                                              try clear p6
                                              try clear q1
                                              try clear q16
                                              try clear q164
                                              try clear q166
                                              try clear q17
                                              try clear q170
                                              try clear q171
                                              try clear q176
                                              try clear q177
                                              try clear q178
                                              try clear q2
                                              try clear q23
                                              try clear q3
                                              try clear q30
                                              try clear q35
                                              try clear q4
                                              try clear q42
                                              try clear q47
                                              obtain ⟨x108_5, rfl, HA, HK5, HB⟩ := hrel
                                              cases gk with
                                              | zero => exact absurd HA.out (by simp [coset_CheckTable.l5])
                                              | succ k5 =>
                                                have H := HA.out
                                                clear HA
                                                simp only [coset_CheckTable.l5] at H
                                                by_cases c60 : x108_5 < ((rd_L1 l0 (rd (rd_L1 l0 x91_3) x98_4)).length : Int)
                                                · rw [if_pos c60] at H
                                                  have c60b0 : decide (x108_5 < ((rd_L1 l0 (rd (rd_L1 l0 x91_3) x98_4)).length : Int)) = true := decide_eq_true c60
                                                  clear c60
                                                  by_cases c61 : 0 ≤ x108_5
                                                  · rw [if_pos c61] at H
                                                    have c61b0 : decide (0 ≤ x108_5) = true := decide_eq_true c61
                                                    clear c61
                                                    by_cases c62 : x108_5 < ((rd_L1 l0 (rd (rd_L1 l0 x91_3) x98_4)).length : Int)
                                                    · rw [if_pos c62] at H
                                                      have c62b0 : decide (x108_5 < ((rd_L1 l0 (rd (rd_L1 l0 x91_3) x98_4)).length : Int)) = true := decide_eq_true c62
                                                      clear c62
                                                      by_cases c63 : 0 ≤ x91_3
                                                      · rw [if_pos c63] at H
                                                        have c63b0 : decide (0 ≤ x91_3) = true := decide_eq_true c63
                                                        clear c63
                                                        by_cases c64 : x91_3 < (l0.length : Int)
                                                        · rw [if_pos c64] at H
                                                          have c64b0 : decide (x91_3 < (l0.length : Int)) = true := decide_eq_true c64
                                                          clear c64
                                                          by_cases c65 : 0 ≤ x98_4
                                                          · rw [if_pos c65] at H
                                                            have c65b0 : decide (0 ≤ x98_4) = true := decide_eq_true c65
                                                            clear c65
                                                            by_cases c66 : x98_4 < (l0.length : Int)
                                                            · rw [if_pos c66] at H
                                                              have c66b0 : decide (x98_4 < (l0.length : Int)) = true := decide_eq_true c66
                                                              clear c66
                                                              by_cases c67 : x108_5 < ((rd_L1 l0 x98_4).length : Int)
                                                              · rw [if_pos c67] at H
                                                                have c67b0 : decide (x108_5 < ((rd_L1 l0 x98_4).length : Int)) = true := decide_eq_true c67
                                                                clear c67
                                                                by_cases c68 : 0 ≤ (rd (rd_L1 l0 x98_4) x108_5)
                                                                · rw [if_pos c68] at H
                                                                  have c68b0 : decide (0 ≤ (rd (rd_L1 l0 x98_4) x108_5)) = true := decide_eq_true c68
                                                                  clear c68
                                                                  by_cases c69 : (rd (rd_L1 l0 x98_4) x108_5) < ((rd_L1 l0 x91_3).length : Int)
                                                                  · rw [if_pos c69] at H
                                                                    have c69b0 : decide ((rd (rd_L1 l0 x98_4) x108_5) < ((rd_L1 l0 x91_3).length : Int)) = true := decide_eq_true c69
                                                                    clear c69
                                                                    by_cases c70 : (rd (rd_L1 l0 x91_3) (rd (rd_L1 l0 x98_4) x108_5)) = (rd (rd_L1 l0 (rd (rd_L1 l0 x91_3) x98_4)) x108_5)
                                                                    · rw [if_pos c70] at H
                                                                      have c70b0 : ((rd (rd_L1 l0 x91_3) (rd (rd_L1 l0 x98_4) x108_5)) == (rd (rd_L1 l0 (rd (rd_L1 l0 x91_3) x98_4)) x108_5)) = true := beq_iff_eq.mpr c70
                                                                      have c70b1 : ((rd (rd_L1 l0 x91_3) (rd (rd_L1 l0 x98_4) x108_5)) != (rd (rd_L1 l0 (rd (rd_L1 l0 x91_3) x98_4)) x108_5)) = false := bne_eq_false_iff_eq.mpr c70
                                                                      clear c70
                                                                      have H' := Aside0.mk H
                                                                      clear H
                                                                      have p179 : 0 ≤ (x108_5 : Int) := of_decide_eq_true (by first | (with_reducible assumption) | assumption)
                                                                      have q179 : x108_5 < ((rd_L1 l0 (rd (rd_L1 l0 x91_3) x98_4)).length : Int) := of_decide_eq_true (by first | (with_reducible assumption) | assumption)
                                                                      obtain ⟨ad179, e179, hx179_0⟩ := Kd.at_int HR178_0.out x108_5 p179 q179
                                                                      cases e179
                                                                      try (replace hx179_0 := (HB.out.cell (World.block_lt_of_cell? w _ hx179_0)).trans hx179_0)
                                                                      replace p179 := eq_true p179
                                                                      replace q179 := eq_true q179
                                                                      have p180 : 0 ≤ (x91_3 : Int) := of_decide_eq_true (by first | (with_reducible assumption) | assumption)
                                                                      have q180 : x91_3 < (l0.length : Int) := of_decide_eq_true (by first | (with_reducible assumption) | assumption)
                                                                      obtain ⟨ad180, A180_0, c180_0, e180, hx180_0, hl180_0, hi180_0⟩ := at_L1 HR0.out x91_3 p180 q180
                                                                      obtain rfl : ad176 = ad180 := (by injection e180)
                                                                      try (replace hx180_0 := (HB.out.cell (World.block_lt_of_cell? w _ hx180_0)).trans hx180_0)
                                                                      have HR180_0 := Aside0.mk hi180_0
                                                                      have HC180_0 := Aside0.mk hl180_0
                                                                      clear hi180_0 hl180_0
                                                                      replace p180 := eq_true p180
                                                                      replace q180 := eq_true q180
                                                                      have p181 : 0 ≤ (x98_4 : Int) := of_decide_eq_true (by first | (with_reducible assumption) | assumption)
                                                                      have q181 : x98_4 < (l0.length : Int) := of_decide_eq_true (by first | (with_reducible assumption) | assumption)
                                                                      obtain ⟨ad181, A181_0, c181_0, e181, hx181_0, hl181_0, hi181_0⟩ := at_L1 HR0.out x98_4 p181 q181
                                                                      obtain rfl : ad176 = ad181 := (by injection e181)
                                                                      try (replace hx181_0 := (HB.out.cell (World.block_lt_of_cell? w _ hx181_0)).trans hx181_0)
                                                                      have HR181_0 := Aside0.mk hi181_0
                                                                      have HC181_0 := Aside0.mk hl181_0
                                                                      clear hi181_0 hl181_0
                                                                      replace p181 := eq_true p181
                                                                      replace q181 := eq_true q181
                                                                      have p182 : 0 ≤ (x108_5 : Int) := of_decide_eq_true (by first | (with_reducible assumption) | assumption)
                                                                      have q182 : x108_5 < ((rd_L1 l0 x98_4).length : Int) := of_decide_eq_true (by first | (with_reducible assumption) | assumption)
                                                                      obtain ⟨ad182, e182, hx182_0⟩ := Kd.at_int HR181_0.out x108_5 p182 q182
                                                                      cases e182
                                                                      try (replace hx182_0 := (HB.out.cell (World.block_lt_of_cell? w _ hx182_0)).trans hx182_0)
                                                                      replace p182 := eq_true p182
                                                                      replace q182 := eq_true q182
                                                                      have p183 : 0 ≤ ((rd (rd_L1 l0 x98_4) x108_5) : Int) := of_decide_eq_true (by first | (with_reducible assumption) | assumption)
                                                                      have q183 : (rd (rd_L1 l0 x98_4) x108_5) < ((rd_L1 l0 x91_3).length : Int) := of_decide_eq_true (by first | (with_reducible assumption) | assumption)
                                                                      obtain ⟨ad183, e183, hx183_0⟩ := Kd.at_int HR180_0.out (rd (rd_L1 l0 x98_4) x108_5) p183 q183
                                                                      cases e183
                                                                      try (replace hx183_0 := (HB.out.cell (World.block_lt_of_cell? w _ hx183_0)).trans hx183_0)
                                                                      replace p183 := eq_true p183
                                                                      replace q183 := eq_true q183
                                                                      go_wp2
                                                                      repeat (apply wp_label; go_wp2)
                                                                      repeat (go_quiet (fail); try go_wp2)
                                                                      go_roundg k5
                                                                      case measure => have := HK1.out; have := HJ9.out; have := HK3.out; have := HK4.out; have := HK5.out; omega
                                                                      case rel => exact ⟨(wrap64 (x108_5 + 1)), (by first | rfl | (simp; done) | (simp [*]; done)), H', ⟨by have := HK1.out; have := HJ9.out; have := HK3.out; have := HK4.out; have := HK5.out; omega⟩, ⟨by repeat (first | (with_reducible first | exact HB.out | apply below_alloc | apply pw_below_drewN | apply below_drew1) | exact HB.out)⟩⟩
                                                                    · rw [if_neg c70] at H
                                                                      have c70b0 : ((rd (rd_L1 l0 x91_3) (rd (rd_L1 l0 x98_4) x108_5)) == (rd (rd_L1 l0 (rd (rd_L1 l0 x91_3) x98_4)) x108_5)) = false := beq_eq_false_iff_ne.mpr c70
                                                                      have c70b1 : ((rd (rd_L1 l0 x91_3) (rd (rd_L1 l0 x98_4) x108_5)) != (rd (rd_L1 l0 (rd (rd_L1 l0 x91_3) x98_4)) x108_5)) = true := bne_iff_ne.mpr c70
                                                                      obtain rfl := Option.some.inj H
                                                                      have p179 : 0 ≤ (x108_5 : Int) := of_decide_eq_true (by first | (with_reducible assumption) | assumption)
                                                                      have q179 : x108_5 < ((rd_L1 l0 (rd (rd_L1 l0 x91_3) x98_4)).length : Int) := of_decide_eq_true (by first | (with_reducible assumption) | assumption)
                                                                      obtain ⟨ad179, e179, hx179_0⟩ := Kd.at_int HR178_0.out x108_5 p179 q179
                                                                      cases e179
                                                                      try (replace hx179_0 := (HB.out.cell (World.block_lt_of_cell? w _ hx179_0)).trans hx179_0)
                                                                      replace p179 := eq_true p179
                                                                      replace q179 := eq_true q179
                                                                      have p180 : 0 ≤ (x91_3 : Int) := of_decide_eq_true (by first | (with_reducible assumption) | assumption)
                                                                      have q180 : x91_3 < (l0.length : Int) := of_decide_eq_true (by first | (with_reducible assumption) | assumption)
                                                                      obtain ⟨ad180, A180_0, c180_0, e180, hx180_0, hl180_0, hi180_0⟩ := at_L1 HR0.out x91_3 p180 q180
                                                                      obtain rfl : ad176 = ad180 := (by injection e180)
                                                                      try (replace hx180_0 := (HB.out.cell (World.block_lt_of_cell? w _ hx180_0)).trans hx180_0)
                                                                      have HR180_0 := Aside0.mk hi180_0
                                                                      have HC180_0 := Aside0.mk hl180_0
                                                                      clear hi180_0 hl180_0
                                                                      replace p180 := eq_true p180
                                                                      replace q180 := eq_true q180
                                                                      have p181 : 0 ≤ (x98_4 : Int) := of_decide_eq_true (by first | (with_reducible assumption) | assumption)
                                                                      have q181 : x98_4 < (l0.length : Int) := of_decide_eq_true (by first | (with_reducible assumption) | assumption)
                                                                      obtain ⟨ad181, A181_0, c181_0, e181, hx181_0, hl181_0, hi181_0⟩ := at_L1 HR0.out x98_4 p181 q181
                                                                      obtain rfl : ad176 = ad181 := (by injection e181)
                                                                      try (replace hx181_0 := (HB.out.cell (World.block_lt_of_cell? w _ hx181_0)).trans hx181_0)
                                                                      have HR181_0 := Aside0.mk hi181_0
                                                                      have HC181_0 := Aside0.mk hl181_0
                                                                      clear hi181_0 hl181_0
                                                                      replace p181 := eq_true p181
                                                                      replace q181 := eq_true q181
                                                                      have p182 : 0 ≤ (x108_5 : Int) := of_decide_eq_true (by first | (with_reducible assumption) | assumption)
                                                                      have q182 : x108_5 < ((rd_L1 l0 x98_4).length : Int) := of_decide_eq_true (by first | (with_reducible assumption) | assumption)
                                                                      obtain ⟨ad182, e182, hx182_0⟩ := Kd.at_int HR181_0.out x108_5 p182 q182
                                                                      cases e182
                                                                      try (replace hx182_0 := (HB.out.cell (World.block_lt_of_cell? w _ hx182_0)).trans hx182_0)
                                                                      replace p182 := eq_true p182
                                                                      replace q182 := eq_true q182
                                                                      have p183 : 0 ≤ ((rd (rd_L1 l0 x98_4) x108_5) : Int) := of_decide_eq_true (by first | (with_reducible assumption) | assumption)
                                                                      have q183 : (rd (rd_L1 l0 x98_4) x108_5) < ((rd_L1 l0 x91_3).length : Int) := of_decide_eq_true (by first | (with_reducible assumption) | assumption)
                                                                      obtain ⟨ad183, e183, hx183_0⟩ := Kd.at_int HR180_0.out (rd (rd_L1 l0 x98_4) x108_5) p183 q183
                                                                      cases e183
                                                                      try (replace hx183_0 := (HB.out.cell (World.block_lt_of_cell? w _ hx183_0)).trans hx183_0)
                                                                      replace p183 := eq_true p183
                                                                      replace q183 := eq_true q183
                                                                      go_wp2
                                                                      repeat (apply wp_label; go_wp2)
                                                                      repeat (go_quiet (fail); try go_wp2)
                                                                      (try simp only [Exit.noGoto])
                                                                      go_ret
                                                                      exact ⟨by first | rfl | (simp [errW_none, errW_some] <;> rfl) | (simp [*, errW_none, errW_some] <;> rfl), by repeat (first | (with_reducible first | exact HB.out | apply below_alloc | apply pw_below_drewN | apply below_drew1) | exact HB.out)⟩
                                                                  · rw [if_neg c69] at H
                                                                    exact absurd H (by simp)
                                                                · rw [if_neg c68] at H
                                                                  exact absurd H (by simp)
                                                              · rw [if_neg c67] at H
                                                                exact absurd H (by simp)
                                                            · rw [if_neg c66] at H
                                                              exact absurd H (by simp)
                                                          · rw [if_neg c65] at H
                                                            exact absurd H (by simp)
                                                        · rw [if_neg c64] at H
                                                          exact absurd H (by simp)
                                                      · rw [if_neg c63] at H
                                                        exact absurd H (by simp)
                                                    · rw [if_neg c62] at H
                                                      exact absurd H (by simp)
                                                  · rw [if_neg c61] at H
                                                    exact absurd H (by simp)
                                                · rw [if_neg c60] at H
                                                  have c60b0 : decide (x108_5 < ((rd_L1 l0 (rd (rd_L1 l0 x91_3) x98_4)).length : Int)) = false := decide_eq_false c60
                                                  clear c60
                                                  have H' := Aside0.mk H
                                                  clear H
                                                  go_wp2
                                                  repeat (apply wp_label; go_wp2)
                                                  repeat (go_quiet (fail); try go_wp2)
                                                  go_roundg k5
                                                  case measure => have := HK1.out; have := HJ9.out; have := HK3.out; have := HK4.out; have := HK5.out; omega
                                                  case rel => exact ⟨(wrap64 (x98_4 + 1)), (by first | rfl | (simp; done) | (simp [*]; done)), H', ⟨by have := HK1.out; have := HJ9.out; have := HK3.out; have := HK4.out; have := HK5.out; omega⟩, ⟨by repeat (first | (with_reducible first | exact HB.out | apply below_alloc | apply pw_below_drewN | apply below_drew1) | exact HB.out)⟩⟩
                                          · rw [if_neg c59] at H
                                            exact absurd H (by simp)
                                        · rw [if_neg c58] at H
                                          exact absurd H (by simp)
                                      · rw [if_neg c57] at H
                                        exact absurd H (by simp)
                                    · rw [if_neg c56] at H
                                      exact absurd H (by simp)
                                  · rw [if_neg c55] at H
                                    have c55b0 : decide (x98_4 < ((rd_L1 l0 x91_3).length : Int)) = false := decide_eq_false c55
                                    clear c55
                                    have H' := Aside0.mk H
                                    clear H
                                    go_wp2
                                    repeat (apply wp_label; go_wp2)
                                    repeat (go_quiet (fail); try go_wp2)
                                    go_roundg k4
                                    case measure => have := HK1.out; have := HJ9.out; have := HK3.out; have := HK4.out; omega
                                    case rel => exact ⟨(wrap64 (x91_3 + 1)), (by first | rfl | (simp; done) | (simp [*]; done)), H', ⟨by have := HK1.out; have := HJ9.out; have := HK3.out; have := HK4.out; omega⟩, ⟨by repeat (first | (with_reducible first | exact HB.out | apply below_alloc | apply pw_below_drewN | apply below_drew1) | exact HB.out)⟩⟩
                            · rw [if_neg c54] at H
                              exact absurd H (by simp)
                          · rw [if_neg c53] at H
                            exact absurd H (by simp)
                        · rw [if_neg c52] at H
                          have c52b0 : decide (x91_3 < (l0.length : Int)) = false := decide_eq_false c52
                          clear c52
                          obtain rfl := Option.some.inj H
                          go_wp2
                          repeat (apply wp_label; go_wp2)
                          repeat (go_quiet (fail); try go_wp2)
                          (try simp only [Exit.noGoto])
                          go_ret
                          exact ⟨by first | rfl | (simp [errW_none, errW_some] <;> rfl) | (simp [*, errW_none, errW_some] <;> rfl), by repeat (first | (with_reducible first | exact HB.out | apply below_alloc | apply pw_below_drewN | apply below_drew1) | exact HB.out)⟩
                  · replace c51 := Bool.eq_false_iff.mpr c51
                    subst c51
                    have H1 : (some 15) = some r := by rw [if_neg (show ¬ (false = true) by decide)] at H; exact H
                    clear H
                    have H := H1
                    clear H1
                    obtain rfl := Option.some.inj H
                    go_wp2
                    repeat (apply wp_label; go_wp2)
                    repeat (go_quiet (fail); try go_wp2)
                    (try simp only [Exit.noGoto])
                    go_ret
                    exact ⟨by first | rfl | (simp [errW_none, errW_some] <;> rfl) | (simp [*, errW_none, errW_some] <;> rfl), by repeat (first | (with_reducible first | exact HB.out | apply below_alloc | apply pw_below_drewN | apply below_drew1) | exact HB.out)⟩
            · rw [if_neg c9] at H
              have c9b0 : (t165 == 0) = false := beq_eq_false_iff_ne.mpr c9
              have c9b1 : (t165 != 0) = true := bne_iff_ne.mpr c9
              obtain rfl := Option.some.inj H
              go_wp2_with (first | (go_at_call 69; (with_reducible refine (coset_ranges.calls k1 _ _ l0 t165 _ ?side1 ?side2 A8.out).mono ?_); (case side1 => repeat (first | exact (Kd.C_below HR0.out HB.out) | (with_reducible refine Kd.C_alloc ?_ _) | (with_reducible refine Kd.C_drewN ?_ _) | (with_reducible refine Kd.C_drew ?_))); (case side2 => exact HC0.out); rintro e w' ⟨rfl, ⟨nd, rfl⟩⟩; (try first | exact ⟨rfl, _, World.drewN_drewN _ _ _⟩ | exact ⟨rfl, _, Eq.trans (World.drewN_drewN _ _ _) (congrArg (World.drewN _) (Nat.add_assoc _ _ _))⟩)))
              repeat (apply wp_label; go_wp2)
              repeat (go_quiet (first | (go_at_call 69; (with_reducible refine (coset_ranges.calls k1 _ _ l0 t165 _ ?side1 ?side2 A8.out).mono ?_); (case side1 => repeat (first | exact (Kd.C_below HR0.out HB.out) | (with_reducible refine Kd.C_alloc ?_ _) | (with_reducible refine Kd.C_drewN ?_ _) | (with_reducible refine Kd.C_drew ?_))); (case side2 => exact HC0.out); rintro e w' ⟨rfl, ⟨nd, rfl⟩⟩; (try first | exact ⟨rfl, _, World.drewN_drewN _ _ _⟩ | exact ⟨rfl, _, Eq.trans (World.drewN_drewN _ _ _) (congrArg (World.drewN _) (Nat.add_assoc _ _ _))⟩))); try go_wp2_with (first | (go_at_call 69; (with_reducible refine (coset_ranges.calls k1 _ _ l0 t165 _ ?side1 ?side2 A8.out).mono ?_); (case side1 => repeat (first | exact (Kd.C_below HR0.out HB.out) | (with_reducible refine Kd.C_alloc ?_ _) | (with_reducible refine Kd.C_drewN ?_ _) | (with_reducible refine Kd.C_drew ?_))); (case side2 => exact HC0.out); rintro e w' ⟨rfl, ⟨nd, rfl⟩⟩; (try first | exact ⟨rfl, _, World.drewN_drewN _ _ _⟩ | exact ⟨rfl, _, Eq.trans (World.drewN_drewN _ _ _) (congrArg (World.drewN _) (Nat.add_assoc _ _ _))⟩))))
              (try simp only [Exit.noGoto])
              go_ret
              exact ⟨by first | rfl | (simp [errW_none, errW_some] <;> rfl) | (simp [*, errW_none, errW_some] <;> rfl), by repeat (first | (with_reducible first | exact HB.out | apply below_alloc | apply pw_below_drewN | apply below_drew1) | exact HB.out)⟩
end Go.Proofs.Ytaaaljifclecnaa.PCk
