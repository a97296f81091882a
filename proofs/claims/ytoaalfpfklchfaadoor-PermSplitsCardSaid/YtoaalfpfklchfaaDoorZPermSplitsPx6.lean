-- Printed by wip/tools/mk.py of this repo (the kit's print with turns made in memory).
import Derived.Test.YtoaalfpfklchfaaDoorZPermSplitsPx0
import Derived.Test.YtoaalfpfklchfaaDoorZPermSplitsPx2
import Derived.Test.YtoaalfpfklchfaaDoorZPermSplitsPx4
import Derived.Test.YtoaalfpfklchfaaDoorZPermSplitsPx5
namespace Go.Proofs.YtoaalfpfklchfaaDoor.PPermSplits
open Go.RowKit Go.Proofs.YtoaalfpfklchfaaDoorW.PrintWords Go.Proofs.YtoaalfpfklchfaaDoorW.PrintLast Go.Proofs.YtoaalfpfklchfaaDoorW.PrintMore
attribute [local go_sem] max2_int min2_int max_two min_two max_three min_three max_four min_four   -- for this text's walks alone
set_option linter.unusedVariables false
set_option linter.unusedSimpArgs false

/-! ### galoislaw22_PermSplits: function 7 -/
mutual
def galoislaw22_PermSplits.j0 : Nat → List Int → Int → Bool → Option (Bool)
  | 0, _, _, _ => none
  | k + 1, x0, x1, x32 => if x32 = true then ((galoislaw22_awake.f k).bind fun t237 => (some t237)) else ((perm_Pow.f k x0 (wrap64 (x1))).bind fun bt238 => ((perm_Type.f k x0).bind fun bt242 => ((perm_Type.f k bt238.1).bind fun bt246 => ((perm_Order.f k x0).bind fun bt250 => ((perm_Order.f k bt238.1).bind fun bt252 => (if bt238.2 = 0 then (if bt242.2 = 0 then (if bt246.2 = 0 then (if bt250.2 = 0 then (galoislaw22_PermSplits.j1 k x0 x1 bt242.1 bt246.1 bt250.1 bt252.1 (bt252.2 != 0)) else (galoislaw22_PermSplits.j1 k x0 x1 bt242.1 bt246.1 bt250.1 bt252.1 true)) else (galoislaw22_PermSplits.j1 k x0 x1 bt242.1 bt246.1 bt250.1 bt252.1 true)) else (galoislaw22_PermSplits.j1 k x0 x1 bt242.1 bt246.1 bt250.1 bt252.1 true)) else (galoislaw22_PermSplits.j1 k x0 x1 bt242.1 bt246.1 bt250.1 bt252.1 true)))))))
def galoislaw22_PermSplits.j1 : Nat → List Int → Int → List Int → List Int → Int → Int → Bool → Option (Bool)
  | 0, _, _, _, _, _, _, _ => none
  | k + 1, x0, x1, x7, x9, x11, x13, x78 => if x78 = true then (some false) else (if 0 ≤ (wrap64 ((x0.length : Int) + 1)) then (if (wrap64 ((x0.length : Int) + 1) : Int).toNat ≤ 35184372088832 then (galoislaw22_PermSplits.l0 k x0 x1 x7 x9 x11 x13 (List.replicate (wrap64 ((x0.length : Int) + 1) : Int).toNat 0) 0) else (none)) else (none))
def galoislaw22_PermSplits.l0 : Nat → List Int → Int → List Int → List Int → Int → Int → List Int → Int → Option (Bool)
  | 0, _, _, _, _, _, _, _, _ => none
  | k + 1, x0, x1, x7, x9, x11, x13, x15, x16 => if x16 < (x7.length : Int) then (if 0 ≤ x16 then (if (rd x7 x16) < 1 then (some false) else (if (rd x7 x16) > (x0.length : Int) then (some false) else ((galoislaw22_gcd.f k (rd x7 x16) (wrap64 (x1))).bind fun t260 => (if t260 = 0 then (none) else (if 0 ≤ (wrap64 (Int.tdiv (rd x7 x16) t260)) then (if (wrap64 (Int.tdiv (rd x7 x16) t260)) < (x15.length : Int) then (galoislaw22_PermSplits.l0 k x0 x1 x7 x9 x11 x13 (x15.set ((wrap64 (Int.tdiv (rd x7 x16) t260)) : Int).toNat (wrap64 ((rd x15 (wrap64 (Int.tdiv (rd x7 x16) t260))) + t260))) (wrap64 (x16 + 1))) else (none)) else (none)))))) else (none)) else (galoislaw22_PermSplits.l1 k x0 x1 x9 x11 x13 x15 0)
def galoislaw22_PermSplits.l1 : Nat → List Int → Int → List Int → Int → Int → List Int → Int → Option (Bool)
  | 0, _, _, _, _, _, _, _ => none
  | k + 1, x0, x1, x9, x11, x13, x15, x18 => if x18 < (x9.length : Int) then (if 0 ≤ x18 then (if (rd x9 x18) < 1 then (some false) else (if (rd x9 x18) > (x0.length : Int) then (some false) else (if x18 > 0 then (if 0 ≤ (wrap64 (x18 - 1)) then (if (wrap64 (x18 - 1)) < (x9.length : Int) then (if (rd x9 x18) > (rd x9 (wrap64 (x18 - 1))) then (some false) else (if 0 ≤ (rd x9 x18) then (if (rd x9 x18) < (x15.length : Int) then (galoislaw22_PermSplits.l1 k x0 x1 x9 x11 x13 (x15.set ((rd x9 x18) : Int).toNat (wrap64 ((rd x15 (rd x9 x18)) - 1))) (wrap64 (x18 + 1))) else (none)) else (none))) else (none)) else (none)) else (if 0 ≤ (rd x9 x18) then (if (rd x9 x18) < (x15.length : Int) then (galoislaw22_PermSplits.l1 k x0 x1 x9 x11 x13 (x15.set ((rd x9 x18) : Int).toNat (wrap64 ((rd x15 (rd x9 x18)) - 1))) (wrap64 (x18 + 1))) else (none)) else (none))))) else (none)) else (galoislaw22_PermSplits.l2 k x1 x11 x13 x15 0)
def galoislaw22_PermSplits.l2 : Nat → Int → Int → Int → List Int → Int → Option (Bool)
  | 0, _, _, _, _, _ => none
  | k + 1, x1, x11, x13, x15, x19 => if x19 < (x15.length : Int) then (if 0 ≤ x19 then (if (rd x15 x19) = 0 then (galoislaw22_PermSplits.l2 k x1 x11 x13 x15 (wrap64 (x19 + 1))) else (some false)) else (none)) else (if x11 > 0 then ((galoislaw22_gcd.f k x11 (wrap64 (x1))).bind fun t275 => (if t275 = 0 then (none) else (some (x13 == (wrap64 (Int.tdiv x11 t275)))))) else (some false))
end
def galoislaw22_PermSplits.f (k : Nat) (l0 : List Int) (a1 : Int) : Option (Bool) := (galoislaw22_awake.f k).bind fun t231 => (if t231 = true then ((galoislaw22_few.f k (([l0] : List (List Int)))).bind fun t235 => (if t235 = true then ((galoisref22_Check.f k l0).bind fun t236 => (galoislaw22_PermSplits.j0 k l0 a1 (t236 != 0))) else (galoislaw22_PermSplits.j0 k l0 a1 true))) else (galoislaw22_PermSplits.j0 k l0 a1 true))
theorem galoislaw22_PermSplits.mono_l : ∀ k, (∀ y0 y1 y2, LeO (galoislaw22_PermSplits.j0 k y0 y1 y2) (galoislaw22_PermSplits.j0 (k + 1) y0 y1 y2)) ∧ (∀ y0 y1 y2 y3 y4 y5 y6, LeO (galoislaw22_PermSplits.j1 k y0 y1 y2 y3 y4 y5 y6) (galoislaw22_PermSplits.j1 (k + 1) y0 y1 y2 y3 y4 y5 y6)) ∧ (∀ y0 y1 y2 y3 y4 y5 y6 y7, LeO (galoislaw22_PermSplits.l0 k y0 y1 y2 y3 y4 y5 y6 y7) (galoislaw22_PermSplits.l0 (k + 1) y0 y1 y2 y3 y4 y5 y6 y7)) ∧ (∀ y0 y1 y2 y3 y4 y5 y6, LeO (galoislaw22_PermSplits.l1 k y0 y1 y2 y3 y4 y5 y6) (galoislaw22_PermSplits.l1 (k + 1) y0 y1 y2 y3 y4 y5 y6)) ∧ (∀ y0 y1 y2 y3 y4, LeO (galoislaw22_PermSplits.l2 k y0 y1 y2 y3 y4) (galoislaw22_PermSplits.l2 (k + 1) y0 y1 y2 y3 y4))
  | 0 => ⟨fun _ _ _ r h => by simp [galoislaw22_PermSplits.j0] at h, fun _ _ _ _ _ _ _ r h => by simp [galoislaw22_PermSplits.j1] at h, fun _ _ _ _ _ _ _ _ r h => by simp [galoislaw22_PermSplits.l0] at h, fun _ _ _ _ _ _ _ r h => by simp [galoislaw22_PermSplits.l1] at h, fun _ _ _ _ _ r h => by simp [galoislaw22_PermSplits.l2] at h⟩
  | k + 1 => by
    obtain ⟨ih0, ih1, ih2, ih3, ih4⟩ := galoislaw22_PermSplits.mono_l k
    refine ⟨?_, ?_, ?_, ?_, ?_⟩
    · intro y0 y1 y2
      unfold galoislaw22_PermSplits.j0
      repeat' first
      | (with_reducible exact ih0 _ _ _)
      | (with_reducible exact ih1 _ _ _ _ _ _ _)
      | (with_reducible exact ih2 _ _ _ _ _ _ _ _)
      | (with_reducible exact ih3 _ _ _ _ _ _ _)
      | (with_reducible exact ih4 _ _ _ _ _)
      | (with_reducible exact galoislaw22_awake.mono _)
      | (with_reducible exact galoislaw22_few.mono _ _)
      | (with_reducible exact galoislaw22_gcd.mono _ _ _)
      | (with_reducible exact galoisref22_Check.mono _ _)
      | (with_reducible exact perm_Order.mono _ _)
      | (with_reducible exact perm_Pow.mono _ _ _)
      | (with_reducible exact perm_Type.mono _ _)
      | (with_reducible exact LeO.refl _)
      | (with_reducible exact LeO.none _)
      | (with_reducible refine LeO.ite ?_ ?_)
      | (with_reducible refine LeO.bind ?_ (fun _ => ?_))
      | exact ih0 _ _ _
      | exact ih1 _ _ _ _ _ _ _
      | exact ih2 _ _ _ _ _ _ _ _
      | exact ih3 _ _ _ _ _ _ _
      | exact ih4 _ _ _ _ _
      | exact galoislaw22_awake.mono _
      | exact galoislaw22_few.mono _ _
      | exact galoislaw22_gcd.mono _ _ _
      | exact galoisref22_Check.mono _ _
      | exact perm_Order.mono _ _
      | exact perm_Pow.mono _ _ _
      | exact perm_Type.mono _ _
      | exact LeO.none _
      | refine LeO.ite ?_ ?_
      | refine LeO.bind ?_ (fun _ => ?_)
    · intro y0 y1 y2 y3 y4 y5 y6
      unfold galoislaw22_PermSplits.j1
      repeat' first
      | (with_reducible exact ih0 _ _ _)
      | (with_reducible exact ih1 _ _ _ _ _ _ _)
      | (with_reducible exact ih2 _ _ _ _ _ _ _ _)
      | (with_reducible exact ih3 _ _ _ _ _ _ _)
      | (with_reducible exact ih4 _ _ _ _ _)
      | (with_reducible exact galoislaw22_awake.mono _)
      | (with_reducible exact galoislaw22_few.mono _ _)
      | (with_reducible exact galoislaw22_gcd.mono _ _ _)
      | (with_reducible exact galoisref22_Check.mono _ _)
      | (with_reducible exact perm_Order.mono _ _)
      | (with_reducible exact perm_Pow.mono _ _ _)
      | (with_reducible exact perm_Type.mono _ _)
      | (with_reducible exact LeO.refl _)
      | (with_reducible exact LeO.none _)
      | (with_reducible refine LeO.ite ?_ ?_)
      | (with_reducible refine LeO.bind ?_ (fun _ => ?_))
      | exact ih0 _ _ _
      | exact ih1 _ _ _ _ _ _ _
      | exact ih2 _ _ _ _ _ _ _ _
      | exact ih3 _ _ _ _ _ _ _
      | exact ih4 _ _ _ _ _
      | exact galoislaw22_awake.mono _
      | exact galoislaw22_few.mono _ _
      | exact galoislaw22_gcd.mono _ _ _
      | exact galoisref22_Check.mono _ _
      | exact perm_Order.mono _ _
      | exact perm_Pow.mono _ _ _
      | exact perm_Type.mono _ _
      | exact LeO.none _
      | refine LeO.ite ?_ ?_
      | refine LeO.bind ?_ (fun _ => ?_)
    · intro y0 y1 y2 y3 y4 y5 y6 y7
      unfold galoislaw22_PermSplits.l0
      repeat' first
      | (with_reducible exact ih0 _ _ _)
      | (with_reducible exact ih1 _ _ _ _ _ _ _)
      | (with_reducible exact ih2 _ _ _ _ _ _ _ _)
      | (with_reducible exact ih3 _ _ _ _ _ _ _)
      | (with_reducible exact ih4 _ _ _ _ _)
      | (with_reducible exact galoislaw22_awake.mono _)
      | (with_reducible exact galoislaw22_few.mono _ _)
      | (with_reducible exact galoislaw22_gcd.mono _ _ _)
      | (with_reducible exact galoisref22_Check.mono _ _)
      | (with_reducible exact perm_Order.mono _ _)
      | (with_reducible exact perm_Pow.mono _ _ _)
      | (with_reducible exact perm_Type.mono _ _)
      | (with_reducible exact LeO.refl _)
      | (with_reducible exact LeO.none _)
      | (with_reducible refine LeO.ite ?_ ?_)
      | (with_reducible refine LeO.bind ?_ (fun _ => ?_))
      | exact ih0 _ _ _
      | exact ih1 _ _ _ _ _ _ _
      | exact ih2 _ _ _ _ _ _ _ _
      | exact ih3 _ _ _ _ _ _ _
      | exact ih4 _ _ _ _ _
      | exact galoislaw22_awake.mono _
      | exact galoislaw22_few.mono _ _
      | exact galoislaw22_gcd.mono _ _ _
      | exact galoisref22_Check.mono _ _
      | exact perm_Order.mono _ _
      | exact perm_Pow.mono _ _ _
      | exact perm_Type.mono _ _
      | exact LeO.none _
      | refine LeO.ite ?_ ?_
      | refine LeO.bind ?_ (fun _ => ?_)
    · intro y0 y1 y2 y3 y4 y5 y6
      unfold galoislaw22_PermSplits.l1
      repeat' first
      | (with_reducible exact ih0 _ _ _)
      | (with_reducible exact ih1 _ _ _ _ _ _ _)
      | (with_reducible exact ih2 _ _ _ _ _ _ _ _)
      | (with_reducible exact ih3 _ _ _ _ _ _ _)
      | (with_reducible exact ih4 _ _ _ _ _)
      | (with_reducible exact galoislaw22_awake.mono _)
      | (with_reducible exact galoislaw22_few.mono _ _)
      | (with_reducible exact galoislaw22_gcd.mono _ _ _)
      | (with_reducible exact galoisref22_Check.mono _ _)
      | (with_reducible exact perm_Order.mono _ _)
      | (with_reducible exact perm_Pow.mono _ _ _)
      | (with_reducible exact perm_Type.mono _ _)
      | (with_reducible exact LeO.refl _)
      | (with_reducible exact LeO.none _)
      | (with_reducible refine LeO.ite ?_ ?_)
      | (with_reducible refine LeO.bind ?_ (fun _ => ?_))
      | exact ih0 _ _ _
      | exact ih1 _ _ _ _ _ _ _
      | exact ih2 _ _ _ _ _ _ _ _
      | exact ih3 _ _ _ _ _ _ _
      | exact ih4 _ _ _ _ _
      | exact galoislaw22_awake.mono _
      | exact galoislaw22_few.mono _ _
      | exact galoislaw22_gcd.mono _ _ _
      | exact galoisref22_Check.mono _ _
      | exact perm_Order.mono _ _
      | exact perm_Pow.mono _ _ _
      | exact perm_Type.mono _ _
      | exact LeO.none _
      | refine LeO.ite ?_ ?_
      | refine LeO.bind ?_ (fun _ => ?_)
    · intro y0 y1 y2 y3 y4
      unfold galoislaw22_PermSplits.l2
      repeat' first
      | (with_reducible exact ih0 _ _ _)
      | (with_reducible exact ih1 _ _ _ _ _ _ _)
      | (with_reducible exact ih2 _ _ _ _ _ _ _ _)
      | (with_reducible exact ih3 _ _ _ _ _ _ _)
      | (with_reducible exact ih4 _ _ _ _ _)
      | (with_reducible exact galoislaw22_awake.mono _)
      | (with_reducible exact galoislaw22_few.mono _ _)
      | (with_reducible exact galoislaw22_gcd.mono _ _ _)
      | (with_reducible exact galoisref22_Check.mono _ _)
      | (with_reducible exact perm_Order.mono _ _)
      | (with_reducible exact perm_Pow.mono _ _ _)
      | (with_reducible exact perm_Type.mono _ _)
      | (with_reducible exact LeO.refl _)
      | (with_reducible exact LeO.none _)
      | (with_reducible refine LeO.ite ?_ ?_)
      | (with_reducible refine LeO.bind ?_ (fun _ => ?_))
      | exact ih0 _ _ _
      | exact ih1 _ _ _ _ _ _ _
      | exact ih2 _ _ _ _ _ _ _ _
      | exact ih3 _ _ _ _ _ _ _
      | exact ih4 _ _ _ _ _
      | exact galoislaw22_awake.mono _
      | exact galoislaw22_few.mono _ _
      | exact galoislaw22_gcd.mono _ _ _
      | exact galoisref22_Check.mono _ _
      | exact perm_Order.mono _ _
      | exact perm_Pow.mono _ _ _
      | exact perm_Type.mono _ _
      | exact LeO.none _
      | refine LeO.ite ?_ ?_
      | refine LeO.bind ?_ (fun _ => ?_)
theorem galoislaw22_PermSplits.mono : ∀ a0 a1 k, LeO (galoislaw22_PermSplits.f k a0 a1) (galoislaw22_PermSplits.f (k + 1) a0 a1) := by
  intro a0 a1 k
  obtain ⟨ih0, ih1, ih2, ih3, ih4⟩ := galoislaw22_PermSplits.mono_l k
  unfold galoislaw22_PermSplits.f
  repeat' first
      | (with_reducible exact ih0 _ _ _)
      | (with_reducible exact ih1 _ _ _ _ _ _ _)
      | (with_reducible exact ih2 _ _ _ _ _ _ _ _)
      | (with_reducible exact ih3 _ _ _ _ _ _ _)
      | (with_reducible exact ih4 _ _ _ _ _)
      | (with_reducible exact galoislaw22_awake.mono _)
      | (with_reducible exact galoislaw22_few.mono _ _)
      | (with_reducible exact galoislaw22_gcd.mono _ _ _)
      | (with_reducible exact galoisref22_Check.mono _ _)
      | (with_reducible exact perm_Order.mono _ _)
      | (with_reducible exact perm_Pow.mono _ _ _)
      | (with_reducible exact perm_Type.mono _ _)
      | (with_reducible exact LeO.refl _)
      | (with_reducible exact LeO.none _)
      | (with_reducible refine LeO.ite ?_ ?_)
      | (with_reducible refine LeO.bind ?_ (fun _ => ?_))
      | exact ih0 _ _ _
      | exact ih1 _ _ _ _ _ _ _
      | exact ih2 _ _ _ _ _ _ _ _
      | exact ih3 _ _ _ _ _ _ _
      | exact ih4 _ _ _ _ _
      | exact galoislaw22_awake.mono _
      | exact galoislaw22_few.mono _ _
      | exact galoislaw22_gcd.mono _ _ _
      | exact galoisref22_Check.mono _ _
      | exact perm_Order.mono _ _
      | exact perm_Pow.mono _ _ _
      | exact perm_Type.mono _ _
      | exact LeO.none _
      | refine LeO.ite ?_ ?_
      | refine LeO.bind ?_ (fun _ => ?_)
set_option maxHeartbeats 8000000 in
set_option maxRecDepth 100000 in
theorem galoislaw22_PermSplits.calls (k : Nat) (P0_ : Nat → Prop) (A0 : Option Addr) (c0 : Nat) (l0 : List Int) (a1 : Int) (r : Bool) (w : World) (hs0 : Kd.V (Kd.int .i64) 3 w w.heap.size (fun k_ => P0_ k_) (.slice A0 l0.length c0) l0) (h : galoislaw22_PermSplits.f k l0 a1 = some r) :
    Calls Tryd.prog 7 #[.slice A0 l0.length c0, .int .i16 a1] w fun e w' => e = .returned (.bool r) ∧ Below w.heap.size w w' := by
  have HO0 := Aside0.mk (show Kd.V (Kd.int .i64) 3 w w.heap.size (fun k_ => (P0_ k_ ∨ w.heap.size ≤ k_)) (.slice A0 l0.length c0) l0 from Kd.V_mono hs0 (fun k_ hk => .inl hk))
  have HB := Aside0.mk (Below.refl w.heap.size w)
  have H : ((galoislaw22_awake.f k).bind fun t231 => (if t231 = true then ((galoislaw22_few.f k (([l0] : List (List Int)))).bind fun t235 => (if t235 = true then ((galoisref22_Check.f k l0).bind fun t236 => (galoislaw22_PermSplits.j0 k l0 a1 (t236 != 0))) else (galoislaw22_PermSplits.j0 k l0 a1 true))) else (galoislaw22_PermSplits.j0 k l0 a1 true))) = some r := h
  clear h
  have HC3 := Aside0.mk H
  clear H
  go_enter Tryd.func7, Tryd.ntmps7
  go_upto_region 1 with (fail)
  repeat (go_quiet (fail); go_upto_region 1 with (fail))
  go_cut [32] (fun v32 wc => ∃ (kq : Nat) (x32_2 : Bool), v32 = .bool x32_2 ∧ Aside0 (galoislaw22_PermSplits.j0 kq l0 a1 x32_2 = some r) ∧ Aside0 (kq ≤ k) ∧ Aside0 (Kd.V (Kd.int .i64) 3 wc w.heap.size (fun k_ => (P0_ k_ ∨ w.heap.size ≤ k_)) (.slice A0 l0.length c0) l0) ∧ Aside0 (Below w.heap.size w wc))
  case first =>
    have H := HC3.out
    clear HC3
    replace H := Option.bind_eq_some_iff.mp H
    obtain ⟨t231, A40, H⟩ := H
    replace H : (if t231 = true then ((galoislaw22_few.f k (([l0] : List (List Int)))).bind fun t235 => (if t235 = true then ((galoisref22_Check.f k l0).bind fun t236 => (galoislaw22_PermSplits.j0 k l0 a1 (t236 != 0))) else (galoislaw22_PermSplits.j0 k l0 a1 true))) else (galoislaw22_PermSplits.j0 k l0 a1 true)) = some r := H
    have A4 := Aside0.mk A40
    clear A40
    by_cases c5 : t231 = true
    · subst c5
      have H1 : ((galoislaw22_few.f k (([l0] : List (List Int)))).bind fun t235 => (if t235 = true then ((galoisref22_Check.f k l0).bind fun t236 => (galoislaw22_PermSplits.j0 k l0 a1 (t236 != 0))) else (galoislaw22_PermSplits.j0 k l0 a1 true))) = some r := by rw [if_pos rfl] at H; exact H
      clear H
      have H := H1
      clear H1
      obtain ⟨y232, hy232⟩ : ∃ y_ : List (List Int), y_ = (([l0] : List (List Int))) := ⟨_, rfl⟩
      replace H : ((galoislaw22_few.f k y232).bind fun t235 => (if t235 = true then ((galoisref22_Check.f k l0).bind fun t236 => (galoislaw22_PermSplits.j0 k l0 a1 (t236 != 0))) else (galoislaw22_PermSplits.j0 k l0 a1 true))) = some r := by first | (rw [hy232]; with_reducible exact H) | (have H2_ := (Option.bind_some _ _).symm.trans H; rw [hy232]; with_reducible exact H2_) | (have H2_ := (Option.bind_some _ _).symm.trans H; with_reducible exact H2_) | with_reducible exact H | (rw [hy232]; exact H) | exact H
      have Ny232 := Aside0.mk hy232
      clear hy232
      replace H := Option.bind_eq_some_iff.mp H
      obtain ⟨t235, A60, H⟩ := H
      replace H : (if t235 = true then ((galoisref22_Check.f k l0).bind fun t236 => (galoislaw22_PermSplits.j0 k l0 a1 (t236 != 0))) else (galoislaw22_PermSplits.j0 k l0 a1 true)) = some r := H
      have A6 := Aside0.mk A60
      clear A60
      by_cases c7 : t235 = true
      · subst c7
        have H1 : ((galoisref22_Check.f k l0).bind fun t236 => (galoislaw22_PermSplits.j0 k l0 a1 (t236 != 0))) = some r := by rw [if_pos rfl] at H; exact H
        clear H
        have H := H1
        clear H1
        replace H := Option.bind_eq_some_iff.mp H
        obtain ⟨t236, A80, H⟩ := H
        replace H : (galoislaw22_PermSplits.j0 k l0 a1 (t236 != 0)) = some r := H
        have A8 := Aside0.mk A80
        clear A80
        have H' := Aside0.mk H
        clear H
        as_aux_lemma =>
          go_wp2_with (first | (go_at_call 12; (with_reducible refine (galoislaw22_awake.calls k  true _ A4.out).mono ?_); rintro e w9 ⟨rfl, hb⟩; have n0_ := Aside0.mk (Kd.V_below (by (with_reducible repeat (first | apply Kd.V_alloc | apply Kd.V_drewN | apply Kd.V_drew)); exact HO0.out) hb); have n1_ := Aside0.mk (below_step (by repeat (first | (with_reducible first | exact HB.out | apply below_alloc | apply pw_below_drewN | apply below_drew1) | exact HB.out)) hb); clear HO0; clear HB; have HO0 := n0_; have HB := n1_; clear n0_ n1_; (try clear hb); (try clear hb2); (try clear hk); (try clear hi)) | ((with_reducible refine gate_dst (N := 24) rfl ?_); (try (refine gate_guard (by rfl) ?_; dsimp only)); refine Kd.N_lit (Kd.slice 3 (Kd.int .i64)) _ 22 ?hg (N' := 24) ?hd (xs := ([l0] : List (List Int))) (inner := [.slice A0 l0.length c0]) (ok := (fun k_ => (P0_ k_ ∨ w.heap.size ≤ k_))) (okp := (fun k_ => (P0_ k_ ∨ w.heap.size ≤ k_))) ?hr ?hp (fun _ hk => hk) ((show ∀ k_, w9.heap.size ≤ k_ → (fun k_ => (P0_ k_ ∨ w.heap.size ≤ k_)) k_ from fun k_ hk => (.inr (Nat.le_trans (below_size (by repeat (first | (with_reducible first | exact HB.out | apply below_alloc | apply pw_below_drewN | apply below_drew1) | exact HB.out))) hk))) _ (Nat.le_refl _)) (Below.refl _ _) (Nat.le_refl _) (by simp) ?_; (case hd => rfl); (case hg => rfl); (case hr => first | (go_simp; done) | (go_simp; rfl)); (case hp => exact (Reps.one (show Kd.FK (Kd.slice 3 (Kd.int .i64)) _ _ l0 [.slice A0 l0.length c0] from (Kd.FK_slice_mk (Kd.V_reads' (Kd.V_mono (ok' := (fun k_ => (P0_ k_ ∨ w.heap.size ≤ k_))) (HO0.out) (fun k_ hk => hk))).2.1 (Kd.V_F (Kd.V_mono (ok' := (fun k_ => (P0_ k_ ∨ w.heap.size ≤ k_))) (HO0.out) (fun k_ hk => hk))))) (Reps.none _ _))); intro v233 w10 ho11 hb hg_ hnew_; clear hg_ hnew_; (first | rw [← Ny232.out] at ho11 | (simp only [Int.reduceToNat] at ho11; rw [← Ny232.out] at ho11)); have n0_ := Aside0.mk (Kd.V_elder' (by (with_reducible repeat (first | apply Kd.V_alloc | apply Kd.V_drewN | apply Kd.V_drew)); exact HO0.out) (by first | exact Kd.N_base ho11 | exact Kd.S_base ho11 | exact Kd.R_base ho11) hb); have n1_ := Aside0.mk (Kd.N_lower ho11 (below_size (by repeat (first | (with_reducible first | exact HB.out | apply below_alloc | apply pw_below_drewN | apply below_drew1) | exact HB.out)))); have n2_ := Aside0.mk (below_step (by repeat (first | (with_reducible first | exact HB.out | apply below_alloc | apply pw_below_drewN | apply below_drew1) | exact HB.out)) hb); clear HO0; clear HB; have HO0 := n0_; have HO234 := n1_; have HB := n2_; clear n0_ n1_ n2_; clear hb ho11; obtain ⟨Ao12, co12, eo12⟩ := Kd.N_slice HO234.out; subst eo12) | (go_at_call 13; (with_reducible refine (galoislaw22_few.calls k _ _ y232 true _ ?side1 ?side2 A6.out).mono ?_); (case side1 => repeat (first | exact (Kd.N_reads' HO234.out).2.2 | (with_reducible refine Kd.C_alloc ?_ _) | (with_reducible refine Kd.C_drewN ?_ _) | (with_reducible refine Kd.C_drew ?_))); (case side2 => exact (Kd.N_reads' HO234.out).2.1); rintro e w' ⟨rfl, ⟨nd, rfl⟩⟩; (try first | exact ⟨rfl, _, World.drewN_drewN _ _ _⟩ | exact ⟨rfl, _, Eq.trans (World.drewN_drewN _ _ _) (congrArg (World.drewN _) (Nat.add_assoc _ _ _))⟩)) | (go_at_call 14; (with_reducible refine (galoisref22_Check.calls k _ _ l0 t236 _ ?side1 ?side2 A8.out).mono ?_); (case side1 => repeat (first | exact (Kd.V_reads' HO0.out).2.2 | (with_reducible refine Kd.C_alloc ?_ _) | (with_reducible refine Kd.C_drewN ?_ _) | (with_reducible refine Kd.C_drew ?_))); (case side2 => exact (Kd.V_reads' HO0.out).2.1); rintro e w' ⟨rfl, ⟨nd, rfl⟩⟩; (try first | exact ⟨rfl, _, World.drewN_drewN _ _ _⟩ | exact ⟨rfl, _, Eq.trans (World.drewN_drewN _ _ _) (congrArg (World.drewN _) (Nat.add_assoc _ _ _))⟩)))
          repeat (go_quiet (first | (go_at_call 12; (with_reducible refine (galoislaw22_awake.calls k  true _ A4.out).mono ?_); rintro e w9 ⟨rfl, hb⟩; have n0_ := Aside0.mk (Kd.V_below (by (with_reducible repeat (first | apply Kd.V_alloc | apply Kd.V_drewN | apply Kd.V_drew)); exact HO0.out) hb); have n1_ := Aside0.mk (below_step (by repeat (first | (with_reducible first | exact HB.out | apply below_alloc | apply pw_below_drewN | apply below_drew1) | exact HB.out)) hb); clear HO0; clear HB; have HO0 := n0_; have HB := n1_; clear n0_ n1_; (try clear hb); (try clear hb2); (try clear hk); (try clear hi)) | ((with_reducible refine gate_dst (N := 24) rfl ?_); (try (refine gate_guard (by rfl) ?_; dsimp only)); refine Kd.N_lit (Kd.slice 3 (Kd.int .i64)) _ 22 ?hg (N' := 24) ?hd (xs := ([l0] : List (List Int))) (inner := [.slice A0 l0.length c0]) (ok := (fun k_ => (P0_ k_ ∨ w.heap.size ≤ k_))) (okp := (fun k_ => (P0_ k_ ∨ w.heap.size ≤ k_))) ?hr ?hp (fun _ hk => hk) ((show ∀ k_, w9.heap.size ≤ k_ → (fun k_ => (P0_ k_ ∨ w.heap.size ≤ k_)) k_ from fun k_ hk => (.inr (Nat.le_trans (below_size (by repeat (first | (with_reducible first | exact HB.out | apply below_alloc | apply pw_below_drewN | apply below_drew1) | exact HB.out))) hk))) _ (Nat.le_refl _)) (Below.refl _ _) (Nat.le_refl _) (by simp) ?_; (case hd => rfl); (case hg => rfl); (case hr => first | (go_simp; done) | (go_simp; rfl)); (case hp => exact (Reps.one (show Kd.FK (Kd.slice 3 (Kd.int .i64)) _ _ l0 [.slice A0 l0.length c0] from (Kd.FK_slice_mk (Kd.V_reads' (Kd.V_mono (ok' := (fun k_ => (P0_ k_ ∨ w.heap.size ≤ k_))) (HO0.out) (fun k_ hk => hk))).2.1 (Kd.V_F (Kd.V_mono (ok' := (fun k_ => (P0_ k_ ∨ w.heap.size ≤ k_))) (HO0.out) (fun k_ hk => hk))))) (Reps.none _ _))); intro v233 w10 ho11 hb hg_ hnew_; clear hg_ hnew_; (first | rw [← Ny232.out] at ho11 | (simp only [Int.reduceToNat] at ho11; rw [← Ny232.out] at ho11)); have n0_ := Aside0.mk (Kd.V_elder' (by (with_reducible repeat (first | apply Kd.V_alloc | apply Kd.V_drewN | apply Kd.V_drew)); exact HO0.out) (by first | exact Kd.N_base ho11 | exact Kd.S_base ho11 | exact Kd.R_base ho11) hb); have n1_ := Aside0.mk (Kd.N_lower ho11 (below_size (by repeat (first | (with_reducible first | exact HB.out | apply below_alloc | apply pw_below_drewN | apply below_drew1) | exact HB.out)))); have n2_ := Aside0.mk (below_step (by repeat (first | (with_reducible first | exact HB.out | apply below_alloc | apply pw_below_drewN | apply below_drew1) | exact HB.out)) hb); clear HO0; clear HB; have HO0 := n0_; have HO234 := n1_; have HB := n2_; clear n0_ n1_ n2_; clear hb ho11; obtain ⟨Ao12, co12, eo12⟩ := Kd.N_slice HO234.out; subst eo12) | (go_at_call 13; (with_reducible refine (galoislaw22_few.calls k _ _ y232 true _ ?side1 ?side2 A6.out).mono ?_); (case side1 => repeat (first | exact (Kd.N_reads' HO234.out).2.2 | (with_reducible refine Kd.C_alloc ?_ _) | (with_reducible refine Kd.C_drewN ?_ _) | (with_reducible refine Kd.C_drew ?_))); (case side2 => exact (Kd.N_reads' HO234.out).2.1); rintro e w' ⟨rfl, ⟨nd, rfl⟩⟩; (try first | exact ⟨rfl, _, World.drewN_drewN _ _ _⟩ | exact ⟨rfl, _, Eq.trans (World.drewN_drewN _ _ _) (congrArg (World.drewN _) (Nat.add_assoc _ _ _))⟩)) | (go_at_call 14; (with_reducible refine (galoisref22_Check.calls k _ _ l0 t236 _ ?side1 ?side2 A8.out).mono ?_); (case side1 => repeat (first | exact (Kd.V_reads' HO0.out).2.2 | (with_reducible refine Kd.C_alloc ?_ _) | (with_reducible refine Kd.C_drewN ?_ _) | (with_reducible refine Kd.C_drew ?_))); (case side2 => exact (Kd.V_reads' HO0.out).2.1); rintro e w' ⟨rfl, ⟨nd, rfl⟩⟩; (try first | exact ⟨rfl, _, World.drewN_drewN _ _ _⟩ | exact ⟨rfl, _, Eq.trans (World.drewN_drewN _ _ _) (congrArg (World.drewN _) (Nat.add_assoc _ _ _))⟩))); try go_wp2_with (first | (go_at_call 12; (with_reducible refine (galoislaw22_awake.calls k  true _ A4.out).mono ?_); rintro e w9 ⟨rfl, hb⟩; have n0_ := Aside0.mk (Kd.V_below (by (with_reducible repeat (first | apply Kd.V_alloc | apply Kd.V_drewN | apply Kd.V_drew)); exact HO0.out) hb); have n1_ := Aside0.mk (below_step (by repeat (first | (with_reducible first | exact HB.out | apply below_alloc | apply pw_below_drewN | apply below_drew1) | exact HB.out)) hb); clear HO0; clear HB; have HO0 := n0_; have HB := n1_; clear n0_ n1_; (try clear hb); (try clear hb2); (try clear hk); (try clear hi)) | ((with_reducible refine gate_dst (N := 24) rfl ?_); (try (refine gate_guard (by rfl) ?_; dsimp only)); refine Kd.N_lit (Kd.slice 3 (Kd.int .i64)) _ 22 ?hg (N' := 24) ?hd (xs := ([l0] : List (List Int))) (inner := [.slice A0 l0.length c0]) (ok := (fun k_ => (P0_ k_ ∨ w.heap.size ≤ k_))) (okp := (fun k_ => (P0_ k_ ∨ w.heap.size ≤ k_))) ?hr ?hp (fun _ hk => hk) ((show ∀ k_, w9.heap.size ≤ k_ → (fun k_ => (P0_ k_ ∨ w.heap.size ≤ k_)) k_ from fun k_ hk => (.inr (Nat.le_trans (below_size (by repeat (first | (with_reducible first | exact HB.out | apply below_alloc | apply pw_below_drewN | apply below_drew1) | exact HB.out))) hk))) _ (Nat.le_refl _)) (Below.refl _ _) (Nat.le_refl _) (by simp) ?_; (case hd => rfl); (case hg => rfl); (case hr => first | (go_simp; done) | (go_simp; rfl)); (case hp => exact (Reps.one (show Kd.FK (Kd.slice 3 (Kd.int .i64)) _ _ l0 [.slice A0 l0.length c0] from (Kd.FK_slice_mk (Kd.V_reads' (Kd.V_mono (ok' := (fun k_ => (P0_ k_ ∨ w.heap.size ≤ k_))) (HO0.out) (fun k_ hk => hk))).2.1 (Kd.V_F (Kd.V_mono (ok' := (fun k_ => (P0_ k_ ∨ w.heap.size ≤ k_))) (HO0.out) (fun k_ hk => hk))))) (Reps.none _ _))); intro v233 w10 ho11 hb hg_ hnew_; clear hg_ hnew_; (first | rw [← Ny232.out] at ho11 | (simp only [Int.reduceToNat] at ho11; rw [← Ny232.out] at ho11)); have n0_ := Aside0.mk (Kd.V_elder' (by (with_reducible repeat (first | apply Kd.V_alloc | apply Kd.V_drewN | apply Kd.V_drew)); exact HO0.out) (by first | exact Kd.N_base ho11 | exact Kd.S_base ho11 | exact Kd.R_base ho11) hb); have n1_ := Aside0.mk (Kd.N_lower ho11 (below_size (by repeat (first | (with_reducible first | exact HB.out | apply below_alloc | apply pw_below_drewN | apply below_drew1) | exact HB.out)))); have n2_ := Aside0.mk (below_step (by repeat (first | (with_reducible first | exact HB.out | apply below_alloc | apply pw_below_drewN | apply below_drew1) | exact HB.out)) hb); clear HO0; clear HB; have HO0 := n0_; have HO234 := n1_; have HB := n2_; clear n0_ n1_ n2_; clear hb ho11; obtain ⟨Ao12, co12, eo12⟩ := Kd.N_slice HO234.out; subst eo12) | (go_at_call 13; (with_reducible refine (galoislaw22_few.calls k _ _ y232 true _ ?side1 ?side2 A6.out).mono ?_); (case side1 => repeat (first | exact (Kd.N_reads' HO234.out).2.2 | (with_reducible refine Kd.C_alloc ?_ _) | (with_reducible refine Kd.C_drewN ?_ _) | (with_reducible refine Kd.C_drew ?_))); (case side2 => exact (Kd.N_reads' HO234.out).2.1); rintro e w' ⟨rfl, ⟨nd, rfl⟩⟩; (try first | exact ⟨rfl, _, World.drewN_drewN _ _ _⟩ | exact ⟨rfl, _, Eq.trans (World.drewN_drewN _ _ _) (congrArg (World.drewN _) (Nat.add_assoc _ _ _))⟩)) | (go_at_call 14; (with_reducible refine (galoisref22_Check.calls k _ _ l0 t236 _ ?side1 ?side2 A8.out).mono ?_); (case side1 => repeat (first | exact (Kd.V_reads' HO0.out).2.2 | (with_reducible refine Kd.C_alloc ?_ _) | (with_reducible refine Kd.C_drewN ?_ _) | (with_reducible refine Kd.C_drew ?_))); (case side2 => exact (Kd.V_reads' HO0.out).2.1); rintro e w' ⟨rfl, ⟨nd, rfl⟩⟩; (try first | exact ⟨rfl, _, World.drewN_drewN _ _ _⟩ | exact ⟨rfl, _, Eq.trans (World.drewN_drewN _ _ _) (congrArg (World.drewN _) (Nat.add_assoc _ _ _))⟩))))
          go_meet
          case rel => exact ⟨_, ((t236 != 0)), (by first | rfl | (simp; done) | (simp [*]; done)), H', ⟨by first | omega | exact Nat.le_refl _⟩, ⟨by (with_reducible repeat (first | apply Kd.V_alloc | apply Kd.V_drewN | apply Kd.V_drew)); exact Kd.V_mono HO0.out (fun _ hk => hk.1)⟩, ⟨by repeat (first | (with_reducible first | exact HB.out | apply below_alloc | apply pw_below_drewN | apply below_drew1) | exact HB.out)⟩⟩
      · replace c7 := Bool.eq_false_iff.mpr c7
        subst c7
        have H1 : (galoislaw22_PermSplits.j0 k l0 a1 true) = some r := by rw [if_neg (show ¬ (false = true) by decide)] at H; exact H
        clear H
        have H := H1
        clear H1
        have H' := Aside0.mk H
        clear H
        as_aux_lemma =>
          go_wp2_with (first | (go_at_call 12; (with_reducible refine (galoislaw22_awake.calls k  true _ A4.out).mono ?_); rintro e w13 ⟨rfl, hb⟩; have n0_ := Aside0.mk (Kd.V_below (by (with_reducible repeat (first | apply Kd.V_alloc | apply Kd.V_drewN | apply Kd.V_drew)); exact HO0.out) hb); have n1_ := Aside0.mk (below_step (by repeat (first | (with_reducible first | exact HB.out | apply below_alloc | apply pw_below_drewN | apply below_drew1) | exact HB.out)) hb); clear HO0; clear HB; have HO0 := n0_; have HB := n1_; clear n0_ n1_; (try clear hb); (try clear hb2); (try clear hk); (try clear hi)) | ((with_reducible refine gate_dst (N := 24) rfl ?_); (try (refine gate_guard (by rfl) ?_; dsimp only)); refine Kd.N_lit (Kd.slice 3 (Kd.int .i64)) _ 22 ?hg (N' := 24) ?hd (xs := ([l0] : List (List Int))) (inner := [.slice A0 l0.length c0]) (ok := (fun k_ => (P0_ k_ ∨ w.heap.size ≤ k_))) (okp := (fun k_ => (P0_ k_ ∨ w.heap.size ≤ k_))) ?hr ?hp (fun _ hk => hk) ((show ∀ k_, w13.heap.size ≤ k_ → (fun k_ => (P0_ k_ ∨ w.heap.size ≤ k_)) k_ from fun k_ hk => (.inr (Nat.le_trans (below_size (by repeat (first | (with_reducible first | exact HB.out | apply below_alloc | apply pw_below_drewN | apply below_drew1) | exact HB.out))) hk))) _ (Nat.le_refl _)) (Below.refl _ _) (Nat.le_refl _) (by simp) ?_; (case hd => rfl); (case hg => rfl); (case hr => first | (go_simp; done) | (go_simp; rfl)); (case hp => exact (Reps.one (show Kd.FK (Kd.slice 3 (Kd.int .i64)) _ _ l0 [.slice A0 l0.length c0] from (Kd.FK_slice_mk (Kd.V_reads' (Kd.V_mono (ok' := (fun k_ => (P0_ k_ ∨ w.heap.size ≤ k_))) (HO0.out) (fun k_ hk => hk))).2.1 (Kd.V_F (Kd.V_mono (ok' := (fun k_ => (P0_ k_ ∨ w.heap.size ≤ k_))) (HO0.out) (fun k_ hk => hk))))) (Reps.none _ _))); intro v233 w14 ho15 hb hg_ hnew_; clear hg_ hnew_; (first | rw [← Ny232.out] at ho15 | (simp only [Int.reduceToNat] at ho15; rw [← Ny232.out] at ho15)); have n0_ := Aside0.mk (Kd.V_elder' (by (with_reducible repeat (first | apply Kd.V_alloc | apply Kd.V_drewN | apply Kd.V_drew)); exact HO0.out) (by first | exact Kd.N_base ho15 | exact Kd.S_base ho15 | exact Kd.R_base ho15) hb); have n1_ := Aside0.mk (Kd.N_lower ho15 (below_size (by repeat (first | (with_reducible first | exact HB.out | apply below_alloc | apply pw_below_drewN | apply below_drew1) | exact HB.out)))); have n2_ := Aside0.mk (below_step (by repeat (first | (with_reducible first | exact HB.out | apply below_alloc | apply pw_below_drewN | apply below_drew1) | exact HB.out)) hb); clear HO0; clear HB; have HO0 := n0_; have HO234 := n1_; have HB := n2_; clear n0_ n1_ n2_; clear hb ho15; obtain ⟨Ao16, co16, eo16⟩ := Kd.N_slice HO234.out; subst eo16) | (go_at_call 13; (with_reducible refine (galoislaw22_few.calls k _ _ y232 false _ ?side1 ?side2 A6.out).mono ?_); (case side1 => repeat (first | exact (Kd.N_reads' HO234.out).2.2 | (with_reducible refine Kd.C_alloc ?_ _) | (with_reducible refine Kd.C_drewN ?_ _) | (with_reducible refine Kd.C_drew ?_))); (case side2 => exact (Kd.N_reads' HO234.out).2.1); rintro e w' ⟨rfl, ⟨nd, rfl⟩⟩; (try first | exact ⟨rfl, _, World.drewN_drewN _ _ _⟩ | exact ⟨rfl, _, Eq.trans (World.drewN_drewN _ _ _) (congrArg (World.drewN _) (Nat.add_assoc _ _ _))⟩)))
          repeat (go_quiet (first | (go_at_call 12; (with_reducible refine (galoislaw22_awake.calls k  true _ A4.out).mono ?_); rintro e w13 ⟨rfl, hb⟩; have n0_ := Aside0.mk (Kd.V_below (by (with_reducible repeat (first | apply Kd.V_alloc | apply Kd.V_drewN | apply Kd.V_drew)); exact HO0.out) hb); have n1_ := Aside0.mk (below_step (by repeat (first | (with_reducible first | exact HB.out | apply below_alloc | apply pw_below_drewN | apply below_drew1) | exact HB.out)) hb); clear HO0; clear HB; have HO0 := n0_; have HB := n1_; clear n0_ n1_; (try clear hb); (try clear hb2); (try clear hk); (try clear hi)) | ((with_reducible refine gate_dst (N := 24) rfl ?_); (try (refine gate_guard (by rfl) ?_; dsimp only)); refine Kd.N_lit (Kd.slice 3 (Kd.int .i64)) _ 22 ?hg (N' := 24) ?hd (xs := ([l0] : List (List Int))) (inner := [.slice A0 l0.length c0]) (ok := (fun k_ => (P0_ k_ ∨ w.heap.size ≤ k_))) (okp := (fun k_ => (P0_ k_ ∨ w.heap.size ≤ k_))) ?hr ?hp (fun _ hk => hk) ((show ∀ k_, w13.heap.size ≤ k_ → (fun k_ => (P0_ k_ ∨ w.heap.size ≤ k_)) k_ from fun k_ hk => (.inr (Nat.le_trans (below_size (by repeat (first | (with_reducible first | exact HB.out | apply below_alloc | apply pw_below_drewN | apply below_drew1) | exact HB.out))) hk))) _ (Nat.le_refl _)) (Below.refl _ _) (Nat.le_refl _) (by simp) ?_; (case hd => rfl); (case hg => rfl); (case hr => first | (go_simp; done) | (go_simp; rfl)); (case hp => exact (Reps.one (show Kd.FK (Kd.slice 3 (Kd.int .i64)) _ _ l0 [.slice A0 l0.length c0] from (Kd.FK_slice_mk (Kd.V_reads' (Kd.V_mono (ok' := (fun k_ => (P0_ k_ ∨ w.heap.size ≤ k_))) (HO0.out) (fun k_ hk => hk))).2.1 (Kd.V_F (Kd.V_mono (ok' := (fun k_ => (P0_ k_ ∨ w.heap.size ≤ k_))) (HO0.out) (fun k_ hk => hk))))) (Reps.none _ _))); intro v233 w14 ho15 hb hg_ hnew_; clear hg_ hnew_; (first | rw [← Ny232.out] at ho15 | (simp only [Int.reduceToNat] at ho15; rw [← Ny232.out] at ho15)); have n0_ := Aside0.mk (Kd.V_elder' (by (with_reducible repeat (first | apply Kd.V_alloc | apply Kd.V_drewN | apply Kd.V_drew)); exact HO0.out) (by first | exact Kd.N_base ho15 | exact Kd.S_base ho15 | exact Kd.R_base ho15) hb); have n1_ := Aside0.mk (Kd.N_lower ho15 (below_size (by repeat (first | (with_reducible first | exact HB.out | apply below_alloc | apply pw_below_drewN | apply below_drew1) | exact HB.out)))); have n2_ := Aside0.mk (below_step (by repeat (first | (with_reducible first | exact HB.out | apply below_alloc | apply pw_below_drewN | apply below_drew1) | exact HB.out)) hb); clear HO0; clear HB; have HO0 := n0_; have HO234 := n1_; have HB := n2_; clear n0_ n1_ n2_; clear hb ho15; obtain ⟨Ao16, co16, eo16⟩ := Kd.N_slice HO234.out; subst eo16) | (go_at_call 13; (with_reducible refine (galoislaw22_few.calls k _ _ y232 false _ ?side1 ?side2 A6.out).mono ?_); (case side1 => repeat (first | exact (Kd.N_reads' HO234.out).2.2 | (with_reducible refine Kd.C_alloc ?_ _) | (with_reducible refine Kd.C_drewN ?_ _) | (with_reducible refine Kd.C_drew ?_))); (case side2 => exact (Kd.N_reads' HO234.out).2.1); rintro e w' ⟨rfl, ⟨nd, rfl⟩⟩; (try first | exact ⟨rfl, _, World.drewN_drewN _ _ _⟩ | exact ⟨rfl, _, Eq.trans (World.drewN_drewN _ _ _) (congrArg (World.drewN _) (Nat.add_assoc _ _ _))⟩))); try go_wp2_with (first | (go_at_call 12; (with_reducible refine (galoislaw22_awake.calls k  true _ A4.out).mono ?_); rintro e w13 ⟨rfl, hb⟩; have n0_ := Aside0.mk (Kd.V_below (by (with_reducible repeat (first | apply Kd.V_alloc | apply Kd.V_drewN | apply Kd.V_drew)); exact HO0.out) hb); have n1_ := Aside0.mk (below_step (by repeat (first | (with_reducible first | exact HB.out | apply below_alloc | apply pw_below_drewN | apply below_drew1) | exact HB.out)) hb); clear HO0; clear HB; have HO0 := n0_; have HB := n1_; clear n0_ n1_; (try clear hb); (try clear hb2); (try clear hk); (try clear hi)) | ((with_reducible refine gate_dst (N := 24) rfl ?_); (try (refine gate_guard (by rfl) ?_; dsimp only)); refine Kd.N_lit (Kd.slice 3 (Kd.int .i64)) _ 22 ?hg (N' := 24) ?hd (xs := ([l0] : List (List Int))) (inner := [.slice A0 l0.length c0]) (ok := (fun k_ => (P0_ k_ ∨ w.heap.size ≤ k_))) (okp := (fun k_ => (P0_ k_ ∨ w.heap.size ≤ k_))) ?hr ?hp (fun _ hk => hk) ((show ∀ k_, w13.heap.size ≤ k_ → (fun k_ => (P0_ k_ ∨ w.heap.size ≤ k_)) k_ from fun k_ hk => (.inr (Nat.le_trans (below_size (by repeat (first | (with_reducible first | exact HB.out | apply below_alloc | apply pw_below_drewN | apply below_drew1) | exact HB.out))) hk))) _ (Nat.le_refl _)) (Below.refl _ _) (Nat.le_refl _) (by simp) ?_; (case hd => rfl); (case hg => rfl); (case hr => first | (go_simp; done) | (go_simp; rfl)); (case hp => exact (Reps.one (show Kd.FK (Kd.slice 3 (Kd.int .i64)) _ _ l0 [.slice A0 l0.length c0] from (Kd.FK_slice_mk (Kd.V_reads' (Kd.V_mono (ok' := (fun k_ => (P0_ k_ ∨ w.heap.size ≤ k_))) (HO0.out) (fun k_ hk => hk))).2.1 (Kd.V_F (Kd.V_mono (ok' := (fun k_ => (P0_ k_ ∨ w.heap.size ≤ k_))) (HO0.out) (fun k_ hk => hk))))) (Reps.none _ _))); intro v233 w14 ho15 hb hg_ hnew_; clear hg_ hnew_; (first | rw [← Ny232.out] at ho15 | (simp only [Int.reduceToNat] at ho15; rw [← Ny232.out] at ho15)); have n0_ := Aside0.mk (Kd.V_elder' (by (with_reducible repeat (first | apply Kd.V_alloc | apply Kd.V_drewN | apply Kd.V_drew)); exact HO0.out) (by first | exact Kd.N_base ho15 | exact Kd.S_base ho15 | exact Kd.R_base ho15) hb); have n1_ := Aside0.mk (Kd.N_lower ho15 (below_size (by repeat (first | (with_reducible first | exact HB.out | apply below_alloc | apply pw_below_drewN | apply below_drew1) | exact HB.out)))); have n2_ := Aside0.mk (below_step (by repeat (first | (with_reducible first | exact HB.out | apply below_alloc | apply pw_below_drewN | apply below_drew1) | exact HB.out)) hb); clear HO0; clear HB; have HO0 := n0_; have HO234 := n1_; have HB := n2_; clear n0_ n1_ n2_; clear hb ho15; obtain ⟨Ao16, co16, eo16⟩ := Kd.N_slice HO234.out; subst eo16) | (go_at_call 13; (with_reducible refine (galoislaw22_few.calls k _ _ y232 false _ ?side1 ?side2 A6.out).mono ?_); (case side1 => repeat (first | exact (Kd.N_reads' HO234.out).2.2 | (with_reducible refine Kd.C_alloc ?_ _) | (with_reducible refine Kd.C_drewN ?_ _) | (with_reducible refine Kd.C_drew ?_))); (case side2 => exact (Kd.N_reads' HO234.out).2.1); rintro e w' ⟨rfl, ⟨nd, rfl⟩⟩; (try first | exact ⟨rfl, _, World.drewN_drewN _ _ _⟩ | exact ⟨rfl, _, Eq.trans (World.drewN_drewN _ _ _) (congrArg (World.drewN _) (Nat.add_assoc _ _ _))⟩))))
          go_meet
          case rel => exact ⟨_, (true), (by first | rfl | (simp; done) | (simp [*]; done)), H', ⟨by first | omega | exact Nat.le_refl _⟩, ⟨by (with_reducible repeat (first | apply Kd.V_alloc | apply Kd.V_drewN | apply Kd.V_drew)); exact Kd.V_mono HO0.out (fun _ hk => hk.1)⟩, ⟨by repeat (first | (with_reducible first | exact HB.out | apply below_alloc | apply pw_below_drewN | apply below_drew1) | exact HB.out)⟩⟩
    · replace c5 := Bool.eq_false_iff.mpr c5
      subst c5
      have H1 : (galoislaw22_PermSplits.j0 k l0 a1 true) = some r := by rw [if_neg (show ¬ (false = true) by decide)] at H; exact H
      clear H
      have H := H1
      clear H1
      have H' := Aside0.mk H
      clear H
      as_aux_lemma =>
        go_wp2_with (first | (go_at_call 12; (with_reducible refine (galoislaw22_awake.calls k  false _ A4.out).mono ?_); rintro e w17 ⟨rfl, hb⟩; have n0_ := Aside0.mk (Kd.V_below (by (with_reducible repeat (first | apply Kd.V_alloc | apply Kd.V_drewN | apply Kd.V_drew)); exact HO0.out) hb); have n1_ := Aside0.mk (below_step (by repeat (first | (with_reducible first | exact HB.out | apply below_alloc | apply pw_below_drewN | apply below_drew1) | exact HB.out)) hb); clear HO0; clear HB; have HO0 := n0_; have HB := n1_; clear n0_ n1_; (try clear hb); (try clear hb2); (try clear hk); (try clear hi)))
        repeat (go_quiet (first | (go_at_call 12; (with_reducible refine (galoislaw22_awake.calls k  false _ A4.out).mono ?_); rintro e w17 ⟨rfl, hb⟩; have n0_ := Aside0.mk (Kd.V_below (by (with_reducible repeat (first | apply Kd.V_alloc | apply Kd.V_drewN | apply Kd.V_drew)); exact HO0.out) hb); have n1_ := Aside0.mk (below_step (by repeat (first | (with_reducible first | exact HB.out | apply below_alloc | apply pw_below_drewN | apply below_drew1) | exact HB.out)) hb); clear HO0; clear HB; have HO0 := n0_; have HB := n1_; clear n0_ n1_; (try clear hb); (try clear hb2); (try clear hk); (try clear hi))); try go_wp2_with (first | (go_at_call 12; (with_reducible refine (galoislaw22_awake.calls k  false _ A4.out).mono ?_); rintro e w17 ⟨rfl, hb⟩; have n0_ := Aside0.mk (Kd.V_below (by (with_reducible repeat (first | apply Kd.V_alloc | apply Kd.V_drewN | apply Kd.V_drew)); exact HO0.out) hb); have n1_ := Aside0.mk (below_step (by repeat (first | (with_reducible first | exact HB.out | apply below_alloc | apply pw_below_drewN | apply below_drew1) | exact HB.out)) hb); clear HO0; clear HB; have HO0 := n0_; have HB := n1_; clear n0_ n1_; (try clear hb); (try clear hb2); (try clear hk); (try clear hi))))
        go_meet
        case rel => exact ⟨_, (true), (by first | rfl | (simp; done) | (simp [*]; done)), H', ⟨by first | omega | exact Nat.le_refl _⟩, ⟨by (with_reducible repeat (first | apply Kd.V_alloc | apply Kd.V_drewN | apply Kd.V_drew)); exact HO0.out⟩, ⟨by repeat (first | (with_reducible first | exact HB.out | apply below_alloc | apply pw_below_drewN | apply below_drew1) | exact HB.out)⟩⟩
  case rest =>
    clear HC3
    try clear p2
    try clear c5
    try clear c7
    obtain ⟨kq, x32_2, rfl, HA, HJ2, HO_0, HB⟩ := hcut
    cases kq with
    | zero => exact absurd HA.out (by simp [galoislaw22_PermSplits.j0])
    | succ kj2 =>
      have H := HA.out
      clear HA
      simp only [galoislaw22_PermSplits.j0] at H
      by_cases c18 : x32_2 = true
      · subst c18
        have H1 : ((galoislaw22_awake.f kj2).bind fun t237 => (some t237)) = some r := by rw [if_pos rfl] at H; exact H
        clear H
        have H := H1
        clear H1
        replace H := Option.bind_eq_some_iff.mp H
        obtain ⟨t237, A190, H⟩ := H
        replace H : (some t237) = some r := H
        have A19 := Aside0.mk A190
        clear A190
        obtain rfl := Option.some.inj H
        as_aux_lemma =>
          go_wp2_with (first | (go_at_call 12; (with_reducible refine (galoislaw22_awake.calls kj2  t237 _ A19.out).mono ?_); rintro e w20 ⟨rfl, hb⟩; have n0_ := Aside0.mk (Kd.V_below (by (with_reducible repeat (first | apply Kd.V_alloc | apply Kd.V_drewN | apply Kd.V_drew)); exact HO_0.out) hb); have n1_ := Aside0.mk (below_step (by repeat (first | (with_reducible first | exact HB.out | apply below_alloc | apply pw_below_drewN | apply below_drew1) | exact HB.out)) hb); clear HO_0; clear HB; have HO_0 := n0_; have HB := n1_; clear n0_ n1_; (try clear hb); (try clear hb2); (try clear hk); (try clear hi)))
          repeat (go_quiet (first | (go_at_call 12; (with_reducible refine (galoislaw22_awake.calls kj2  t237 _ A19.out).mono ?_); rintro e w20 ⟨rfl, hb⟩; have n0_ := Aside0.mk (Kd.V_below (by (with_reducible repeat (first | apply Kd.V_alloc | apply Kd.V_drewN | apply Kd.V_drew)); exact HO_0.out) hb); have n1_ := Aside0.mk (below_step (by repeat (first | (with_reducible first | exact HB.out | apply below_alloc | apply pw_below_drewN | apply below_drew1) | exact HB.out)) hb); clear HO_0; clear HB; have HO_0 := n0_; have HB := n1_; clear n0_ n1_; (try clear hb); (try clear hb2); (try clear hk); (try clear hi))); try go_wp2_with (first | (go_at_call 12; (with_reducible refine (galoislaw22_awake.calls kj2  t237 _ A19.out).mono ?_); rintro e w20 ⟨rfl, hb⟩; have n0_ := Aside0.mk (Kd.V_below (by (with_reducible repeat (first | apply Kd.V_alloc | apply Kd.V_drewN | apply Kd.V_drew)); exact HO_0.out) hb); have n1_ := Aside0.mk (below_step (by repeat (first | (with_reducible first | exact HB.out | apply below_alloc | apply pw_below_drewN | apply below_drew1) | exact HB.out)) hb); clear HO_0; clear HB; have HO_0 := n0_; have HB := n1_; clear n0_ n1_; (try clear hb); (try clear hb2); (try clear hk); (try clear hi))))
          go_ret
          exact ⟨by first | rfl | (simp [errW_none, errW_some] <;> rfl) | (simp [*, errW_none, errW_some] <;> rfl), by repeat (first | (with_reducible first | exact HB.out | apply below_alloc | apply pw_below_drewN | apply below_drew1) | exact HB.out)⟩
      · replace c18 := Bool.eq_false_iff.mpr c18
        subst c18
        have H1 : ((perm_Pow.f kj2 l0 (wrap64 (a1))).bind fun bt238 => ((perm_Type.f kj2 l0).bind fun bt242 => ((perm_Type.f kj2 bt238.1).bind fun bt246 => ((perm_Order.f kj2 l0).bind fun bt250 => ((perm_Order.f kj2 bt238.1).bind fun bt252 => (if bt238.2 = 0 then (if bt242.2 = 0 then (if bt246.2 = 0 then (if bt250.2 = 0 then (galoislaw22_PermSplits.j1 kj2 l0 a1 bt242.1 bt246.1 bt250.1 bt252.1 (bt252.2 != 0)) else (galoislaw22_PermSplits.j1 kj2 l0 a1 bt242.1 bt246.1 bt250.1 bt252.1 true)) else (galoislaw22_PermSplits.j1 kj2 l0 a1 bt242.1 bt246.1 bt250.1 bt252.1 true)) else (galoislaw22_PermSplits.j1 kj2 l0 a1 bt242.1 bt246.1 bt250.1 bt252.1 true)) else (galoislaw22_PermSplits.j1 kj2 l0 a1 bt242.1 bt246.1 bt250.1 bt252.1 true))))))) = some r := by rw [if_neg (show ¬ (false = true) by decide)] at H; exact H
        clear H
        have H := H1
        clear H1
        replace H := Option.bind_eq_some_iff.mp H
        obtain ⟨⟨t238, t239⟩, A210, H⟩ := H
        replace H : ((perm_Type.f kj2 l0).bind fun bt242 => ((perm_Type.f kj2 t238).bind fun bt246 => ((perm_Order.f kj2 l0).bind fun bt250 => ((perm_Order.f kj2 t238).bind fun bt252 => (if t239 = 0 then (if bt242.2 = 0 then (if bt246.2 = 0 then (if bt250.2 = 0 then (galoislaw22_PermSplits.j1 kj2 l0 a1 bt242.1 bt246.1 bt250.1 bt252.1 (bt252.2 != 0)) else (galoislaw22_PermSplits.j1 kj2 l0 a1 bt242.1 bt246.1 bt250.1 bt252.1 true)) else (galoislaw22_PermSplits.j1 kj2 l0 a1 bt242.1 bt246.1 bt250.1 bt252.1 true)) else (galoislaw22_PermSplits.j1 kj2 l0 a1 bt242.1 bt246.1 bt250.1 bt252.1 true)) else (galoislaw22_PermSplits.j1 kj2 l0 a1 bt242.1 bt246.1 bt250.1 bt252.1 true)))))) = some r := H
        have A21 := Aside0.mk A210
        clear A210
        replace H := Option.bind_eq_some_iff.mp H
        obtain ⟨⟨t242, t243⟩, A220, H⟩ := H
        replace H : ((perm_Type.f kj2 t238).bind fun bt246 => ((perm_Order.f kj2 l0).bind fun bt250 => ((perm_Order.f kj2 t238).bind fun bt252 => (if t239 = 0 then (if t243 = 0 then (if bt246.2 = 0 then (if bt250.2 = 0 then (galoislaw22_PermSplits.j1 kj2 l0 a1 t242 bt246.1 bt250.1 bt252.1 (bt252.2 != 0)) else (galoislaw22_PermSplits.j1 kj2 l0 a1 t242 bt246.1 bt250.1 bt252.1 true)) else (galoislaw22_PermSplits.j1 kj2 l0 a1 t242 bt246.1 bt250.1 bt252.1 true)) else (galoislaw22_PermSplits.j1 kj2 l0 a1 t242 bt246.1 bt250.1 bt252.1 true)) else (galoislaw22_PermSplits.j1 kj2 l0 a1 t242 bt246.1 bt250.1 bt252.1 true))))) = some r := H
        have A22 := Aside0.mk A220
        clear A220
        replace H := Option.bind_eq_some_iff.mp H
        obtain ⟨⟨t246, t247⟩, A230, H⟩ := H
        replace H : ((perm_Order.f kj2 l0).bind fun bt250 => ((perm_Order.f kj2 t238).bind fun bt252 => (if t239 = 0 then (if t243 = 0 then (if t247 = 0 then (if bt250.2 = 0 then (galoislaw22_PermSplits.j1 kj2 l0 a1 t242 t246 bt250.1 bt252.1 (bt252.2 != 0)) else (galoislaw22_PermSplits.j1 kj2 l0 a1 t242 t246 bt250.1 bt252.1 true)) else (galoislaw22_PermSplits.j1 kj2 l0 a1 t242 t246 bt250.1 bt252.1 true)) else (galoislaw22_PermSplits.j1 kj2 l0 a1 t242 t246 bt250.1 bt252.1 true)) else (galoislaw22_PermSplits.j1 kj2 l0 a1 t242 t246 bt250.1 bt252.1 true)))) = some r := H
        have A23 := Aside0.mk A230
        clear A230
        replace H := Option.bind_eq_some_iff.mp H
        obtain ⟨⟨t250, t251⟩, A240, H⟩ := H
        replace H : ((perm_Order.f kj2 t238).bind fun bt252 => (if t239 = 0 then (if t243 = 0 then (if t247 = 0 then (if t251 = 0 then (galoislaw22_PermSplits.j1 kj2 l0 a1 t242 t246 t250 bt252.1 (bt252.2 != 0)) else (galoislaw22_PermSplits.j1 kj2 l0 a1 t242 t246 t250 bt252.1 true)) else (galoislaw22_PermSplits.j1 kj2 l0 a1 t242 t246 t250 bt252.1 true)) else (galoislaw22_PermSplits.j1 kj2 l0 a1 t242 t246 t250 bt252.1 true)) else (galoislaw22_PermSplits.j1 kj2 l0 a1 t242 t246 t250 bt252.1 true))) = some r := H
        have A24 := Aside0.mk A240
        clear A240
        replace H := Option.bind_eq_some_iff.mp H
        obtain ⟨⟨t252, t253⟩, A250, H⟩ := H
        replace H : (if t239 = 0 then (if t243 = 0 then (if t247 = 0 then (if t251 = 0 then (galoislaw22_PermSplits.j1 kj2 l0 a1 t242 t246 t250 t252 (t253 != 0)) else (galoislaw22_PermSplits.j1 kj2 l0 a1 t242 t246 t250 t252 true)) else (galoislaw22_PermSplits.j1 kj2 l0 a1 t242 t246 t250 t252 true)) else (galoislaw22_PermSplits.j1 kj2 l0 a1 t242 t246 t250 t252 true)) else (galoislaw22_PermSplits.j1 kj2 l0 a1 t242 t246 t250 t252 true)) = some r := H
        have A25 := Aside0.mk A250
        clear A250
        have HC26 := Aside0.mk H
        clear H
        go_upto_region 8 with (first | (go_at_call 15; (with_reducible refine (perm_Pow.calls kj2 _ _ l0 (wrap64 (a1)) t238 t239 _ ?side1 ?side2 A21.out).mono ?_); (case side1 => repeat (first | exact (Kd.V_reads' HO_0.out).2.2 | (with_reducible refine Kd.C_alloc ?_ _) | (with_reducible refine Kd.C_drewN ?_ _) | (with_reducible refine Kd.C_drew ?_))); (case side2 => exact (Kd.V_reads' HO_0.out).2.1); rintro e w27 ⟨v240, rfl, ho0, hb⟩; have n0_ := Aside0.mk (Kd.V_elder' (by (with_reducible repeat (first | apply Kd.V_alloc | apply Kd.V_drewN | apply Kd.V_drew)); exact HO_0.out) (Kd.R_base ho0) hb); have n1_ := Aside0.mk (Kd.R_lower (Kd.R_newM (M := fun k_ => (w.heap.size ≤ k_)) ho0 (below_size (by repeat (first | (with_reducible first | exact HB.out | apply below_alloc | apply pw_below_drewN | apply below_drew1) | exact HB.out))) (fun k_ h_ => h_)) (below_size (by repeat (first | (with_reducible first | exact HB.out | apply below_alloc | apply pw_below_drewN | apply below_drew1) | exact HB.out)))); have n2_ := Aside0.mk (below_step (by repeat (first | (with_reducible first | exact HB.out | apply below_alloc | apply pw_below_drewN | apply below_drew1) | exact HB.out)) hb); clear HO_0; clear HB; have HO_0 := n0_; have HO241 := n1_; have HB := n2_; clear n0_ n1_ n2_; (try clear hb); (try clear hb2); (try clear hk); (try clear hi); (try clear ho0)) | (go_at_call 37; (with_reducible refine (perm_Type.calls kj2 _ _ l0 t242 t243 _ ?side1 ?side2 A22.out).mono ?_); (case side1 => repeat (first | exact (Kd.V_reads' HO_0.out).2.2 | (with_reducible refine Kd.C_alloc ?_ _) | (with_reducible refine Kd.C_drewN ?_ _) | (with_reducible refine Kd.C_drew ?_))); (case side2 => exact (Kd.V_reads' HO_0.out).2.1); rintro e w28 ⟨v244, rfl, ho0, hb⟩; have n0_ := Aside0.mk (Kd.V_elder' (by (with_reducible repeat (first | apply Kd.V_alloc | apply Kd.V_drewN | apply Kd.V_drew)); exact HO_0.out) (Kd.R_base ho0) hb); have n1_ := Aside0.mk (Kd.R_elder' (by (with_reducible repeat (first | apply Kd.R_alloc | apply Kd.R_drewN | apply Kd.R_drew)); exact HO241.out) (Kd.R_base ho0) hb); have n2_ := Aside0.mk (Kd.R_lower (Kd.R_new' (Kd.R_newM (M := fun k_ => (w.heap.size ≤ k_)) ho0 (below_size (by repeat (first | (with_reducible first | exact HB.out | apply below_alloc | apply pw_below_drewN | apply below_drew1) | exact HB.out))) (fun k_ h_ => h_)) (Kd.R_lt (by (with_reducible repeat (first | apply Kd.R_alloc | apply Kd.R_drewN | apply Kd.R_drew)); exact HO241.out))) (below_size (by repeat (first | (with_reducible first | exact HB.out | apply below_alloc | apply pw_below_drewN | apply below_drew1) | exact HB.out)))); have n3_ := Aside0.mk (below_step (by repeat (first | (with_reducible first | exact HB.out | apply below_alloc | apply pw_below_drewN | apply below_drew1) | exact HB.out)) hb); clear HO_0; clear HO241; clear HB; have HO_0 := n0_; have HO241 := n1_; have HO245 := n2_; have HB := n3_; clear n0_ n1_ n2_ n3_; (try clear hb); (try clear hb2); (try clear hk); (try clear hi); (try clear ho0); obtain ⟨Ao29, co29, eo29⟩ := Kd.R_slice HO241.out; subst eo29) | (go_at_call 37; (with_reducible refine (perm_Type.calls kj2 _ _ t238 t246 t247 _ ?side1 ?side2 A23.out).mono ?_); (case side1 => repeat (first | exact (Kd.R_reads' HO241.out).2.2 | (with_reducible refine Kd.C_alloc ?_ _) | (with_reducible refine Kd.C_drewN ?_ _) | (with_reducible refine Kd.C_drew ?_))); (case side2 => exact (Kd.R_reads' HO241.out).2.1); rintro e w30 ⟨v248, rfl, ho0, hb⟩; have n0_ := Aside0.mk (Kd.V_elder' (by (with_reducible repeat (first | apply Kd.V_alloc | apply Kd.V_drewN | apply Kd.V_drew)); exact HO_0.out) (Kd.R_base ho0) hb); have n1_ := Aside0.mk (Kd.R_elder' (by (with_reducible repeat (first | apply Kd.R_alloc | apply Kd.R_drewN | apply Kd.R_drew)); exact HO241.out) (Kd.R_base ho0) hb); have n2_ := Aside0.mk (Kd.R_elder' (by (with_reducible repeat (first | apply Kd.R_alloc | apply Kd.R_drewN | apply Kd.R_drew)); exact HO245.out) (Kd.R_base ho0) hb); have n3_ := Aside0.mk (Kd.R_lower (Kd.R_new' (Kd.R_new' (Kd.R_newM (M := fun k_ => (w.heap.size ≤ k_)) ho0 (below_size (by repeat (first | (with_reducible first | exact HB.out | apply below_alloc | apply pw_below_drewN | apply below_drew1) | exact HB.out))) (fun k_ h_ => h_)) (Kd.R_lt (by (with_reducible repeat (first | apply Kd.R_alloc | apply Kd.R_drewN | apply Kd.R_drew)); exact HO241.out))) (Kd.R_lt (by (with_reducible repeat (first | apply Kd.R_alloc | apply Kd.R_drewN | apply Kd.R_drew)); exact HO245.out))) (below_size (by repeat (first | (with_reducible first | exact HB.out | apply below_alloc | apply pw_below_drewN | apply below_drew1) | exact HB.out)))); have n4_ := Aside0.mk (below_step (by repeat (first | (with_reducible first | exact HB.out | apply below_alloc | apply pw_below_drewN | apply below_drew1) | exact HB.out)) hb); clear HO_0; clear HO241; clear HO245; clear HB; have HO_0 := n0_; have HO241 := n1_; have HO245 := n2_; have HO249 := n3_; have HB := n4_; clear n0_ n1_ n2_ n3_ n4_; (try clear hb); (try clear hb2); (try clear hk); (try clear hi); (try clear ho0)) | (go_at_call 17; (with_reducible refine (perm_Order.calls kj2 _ _ l0 t250 t251 _ ?side1 ?side2 A24.out).mono ?_); (case side1 => repeat (first | exact (Kd.V_reads' HO_0.out).2.2 | (with_reducible refine Kd.C_alloc ?_ _) | (with_reducible refine Kd.C_drewN ?_ _) | (with_reducible refine Kd.C_drew ?_))); (case side2 => exact (Kd.V_reads' HO_0.out).2.1); rintro e w31 ⟨rfl, hb⟩; have n0_ := Aside0.mk (Kd.V_below (by (with_reducible repeat (first | apply Kd.V_alloc | apply Kd.V_drewN | apply Kd.V_drew)); exact HO_0.out) hb); have n1_ := Aside0.mk (Kd.R_below (by (with_reducible repeat (first | apply Kd.R_alloc | apply Kd.R_drewN | apply Kd.R_drew)); exact HO241.out) hb); have n2_ := Aside0.mk (Kd.R_below (by (with_reducible repeat (first | apply Kd.R_alloc | apply Kd.R_drewN | apply Kd.R_drew)); exact HO245.out) hb); have n3_ := Aside0.mk (Kd.R_below (by (with_reducible repeat (first | apply Kd.R_alloc | apply Kd.R_drewN | apply Kd.R_drew)); exact HO249.out) hb); have n4_ := Aside0.mk (below_step (by repeat (first | (with_reducible first | exact HB.out | apply below_alloc | apply pw_below_drewN | apply below_drew1) | exact HB.out)) hb); clear HO_0; clear HO241; clear HO245; clear HO249; clear HB; have HO_0 := n0_; have HO241 := n1_; have HO245 := n2_; have HO249 := n3_; have HB := n4_; clear n0_ n1_ n2_ n3_ n4_; (try clear hb); (try clear hb2); (try clear hk); (try clear hi)) | (go_at_call 17; (with_reducible refine (perm_Order.calls kj2 _ _ t238 t252 t253 _ ?side1 ?side2 A25.out).mono ?_); (case side1 => repeat (first | exact (Kd.R_reads' HO241.out).2.2 | (with_reducible refine Kd.C_alloc ?_ _) | (with_reducible refine Kd.C_drewN ?_ _) | (with_reducible refine Kd.C_drew ?_))); (case side2 => exact (Kd.R_reads' HO241.out).2.1); rintro e w32 ⟨rfl, hb⟩; have n0_ := Aside0.mk (Kd.V_below (by (with_reducible repeat (first | apply Kd.V_alloc | apply Kd.V_drewN | apply Kd.V_drew)); exact HO_0.out) hb); have n1_ := Aside0.mk (Kd.R_below (by (with_reducible repeat (first | apply Kd.R_alloc | apply Kd.R_drewN | apply Kd.R_drew)); exact HO241.out) hb); have n2_ := Aside0.mk (Kd.R_below (by (with_reducible repeat (first | apply Kd.R_alloc | apply Kd.R_drewN | apply Kd.R_drew)); exact HO245.out) hb); have n3_ := Aside0.mk (Kd.R_below (by (with_reducible repeat (first | apply Kd.R_alloc | apply Kd.R_drewN | apply Kd.R_drew)); exact HO249.out) hb); have n4_ := Aside0.mk (below_step (by repeat (first | (with_reducible first | exact HB.out | apply below_alloc | apply pw_below_drewN | apply below_drew1) | exact HB.out)) hb); clear HO_0; clear HO241; clear HO245; clear HO249; clear HB; have HO_0 := n0_; have HO241 := n1_; have HO245 := n2_; have HO249 := n3_; have HB := n4_; clear n0_ n1_ n2_ n3_ n4_; (try clear hb); (try clear hb2); (try clear hk); (try clear hi)))
        repeat (go_quiet (first | (go_at_call 15; (with_reducible refine (perm_Pow.calls kj2 _ _ l0 (wrap64 (a1)) t238 t239 _ ?side1 ?side2 A21.out).mono ?_); (case side1 => repeat (first | exact (Kd.V_reads' HO_0.out).2.2 | (with_reducible refine Kd.C_alloc ?_ _) | (with_reducible refine Kd.C_drewN ?_ _) | (with_reducible refine Kd.C_drew ?_))); (case side2 => exact (Kd.V_reads' HO_0.out).2.1); rintro e w27 ⟨v240, rfl, ho0, hb⟩; have n0_ := Aside0.mk (Kd.V_elder' (by (with_reducible repeat (first | apply Kd.V_alloc | apply Kd.V_drewN | apply Kd.V_drew)); exact HO_0.out) (Kd.R_base ho0) hb); have n1_ := Aside0.mk (Kd.R_lower (Kd.R_newM (M := fun k_ => (w.heap.size ≤ k_)) ho0 (below_size (by repeat (first | (with_reducible first | exact HB.out | apply below_alloc | apply pw_below_drewN | apply below_drew1) | exact HB.out))) (fun k_ h_ => h_)) (below_size (by repeat (first | (with_reducible first | exact HB.out | apply below_alloc | apply pw_below_drewN | apply below_drew1) | exact HB.out)))); have n2_ := Aside0.mk (below_step (by repeat (first | (with_reducible first | exact HB.out | apply below_alloc | apply pw_below_drewN | apply below_drew1) | exact HB.out)) hb); clear HO_0; clear HB; have HO_0 := n0_; have HO241 := n1_; have HB := n2_; clear n0_ n1_ n2_; (try clear hb); (try clear hb2); (try clear hk); (try clear hi); (try clear ho0)) | (go_at_call 37; (with_reducible refine (perm_Type.calls kj2 _ _ l0 t242 t243 _ ?side1 ?side2 A22.out).mono ?_); (case side1 => repeat (first | exact (Kd.V_reads' HO_0.out).2.2 | (with_reducible refine Kd.C_alloc ?_ _) | (with_reducible refine Kd.C_drewN ?_ _) | (with_reducible refine Kd.C_drew ?_))); (case side2 => exact (Kd.V_reads' HO_0.out).2.1); rintro e w28 ⟨v244, rfl, ho0, hb⟩; have n0_ := Aside0.mk (Kd.V_elder' (by (with_reducible repeat (first | apply Kd.V_alloc | apply Kd.V_drewN | apply Kd.V_drew)); exact HO_0.out) (Kd.R_base ho0) hb); have n1_ := Aside0.mk (Kd.R_elder' (by (with_reducible repeat (first | apply Kd.R_alloc | apply Kd.R_drewN | apply Kd.R_drew)); exact HO241.out) (Kd.R_base ho0) hb); have n2_ := Aside0.mk (Kd.R_lower (Kd.R_new' (Kd.R_newM (M := fun k_ => (w.heap.size ≤ k_)) ho0 (below_size (by repeat (first | (with_reducible first | exact HB.out | apply below_alloc | apply pw_below_drewN | apply below_drew1) | exact HB.out))) (fun k_ h_ => h_)) (Kd.R_lt (by (with_reducible repeat (first | apply Kd.R_alloc | apply Kd.R_drewN | apply Kd.R_drew)); exact HO241.out))) (below_size (by repeat (first | (with_reducible first | exact HB.out | apply below_alloc | apply pw_below_drewN | apply below_drew1) | exact HB.out)))); have n3_ := Aside0.mk (below_step (by repeat (first | (with_reducible first | exact HB.out | apply below_alloc | apply pw_below_drewN | apply below_drew1) | exact HB.out)) hb); clear HO_0; clear HO241; clear HB; have HO_0 := n0_; have HO241 := n1_; have HO245 := n2_; have HB := n3_; clear n0_ n1_ n2_ n3_; (try clear hb); (try clear hb2); (try clear hk); (try clear hi); (try clear ho0); obtain ⟨Ao29, co29, eo29⟩ := Kd.R_slice HO241.out; subst eo29) | (go_at_call 37; (with_reducible refine (perm_Type.calls kj2 _ _ t238 t246 t247 _ ?side1 ?side2 A23.out).mono ?_); (case side1 => repeat (first | exact (Kd.R_reads' HO241.out).2.2 | (with_reducible refine Kd.C_alloc ?_ _) | (with_reducible refine Kd.C_drewN ?_ _) | (with_reducible refine Kd.C_drew ?_))); (case side2 => exact (Kd.R_reads' HO241.out).2.1); rintro e w30 ⟨v248, rfl, ho0, hb⟩; have n0_ := Aside0.mk (Kd.V_elder' (by (with_reducible repeat (first | apply Kd.V_alloc | apply Kd.V_drewN | apply Kd.V_drew)); exact HO_0.out) (Kd.R_base ho0) hb); have n1_ := Aside0.mk (Kd.R_elder' (by (with_reducible repeat (first | apply Kd.R_alloc | apply Kd.R_drewN | apply Kd.R_drew)); exact HO241.out) (Kd.R_base ho0) hb); have n2_ := Aside0.mk (Kd.R_elder' (by (with_reducible repeat (first | apply Kd.R_alloc | apply Kd.R_drewN | apply Kd.R_drew)); exact HO245.out) (Kd.R_base ho0) hb); have n3_ := Aside0.mk (Kd.R_lower (Kd.R_new' (Kd.R_new' (Kd.R_newM (M := fun k_ => (w.heap.size ≤ k_)) ho0 (below_size (by repeat (first | (with_reducible first | exact HB.out | apply below_alloc | apply pw_below_drewN | apply below_drew1) | exact HB.out))) (fun k_ h_ => h_)) (Kd.R_lt (by (with_reducible repeat (first | apply Kd.R_alloc | apply Kd.R_drewN | apply Kd.R_drew)); exact HO241.out))) (Kd.R_lt (by (with_reducible repeat (first | apply Kd.R_alloc | apply Kd.R_drewN | apply Kd.R_drew)); exact HO245.out))) (below_size (by repeat (first | (with_reducible first | exact HB.out | apply below_alloc | apply pw_below_drewN | apply below_drew1) | exact HB.out)))); have n4_ := Aside0.mk (below_step (by repeat (first | (with_reducible first | exact HB.out | apply below_alloc | apply pw_below_drewN | apply below_drew1) | exact HB.out)) hb); clear HO_0; clear HO241; clear HO245; clear HB; have HO_0 := n0_; have HO241 := n1_; have HO245 := n2_; have HO249 := n3_; have HB := n4_; clear n0_ n1_ n2_ n3_ n4_; (try clear hb); (try clear hb2); (try clear hk); (try clear hi); (try clear ho0)) | (go_at_call 17; (with_reducible refine (perm_Order.calls kj2 _ _ l0 t250 t251 _ ?side1 ?side2 A24.out).mono ?_); (case side1 => repeat (first | exact (Kd.V_reads' HO_0.out).2.2 | (with_reducible refine Kd.C_alloc ?_ _) | (with_reducible refine Kd.C_drewN ?_ _) | (with_reducible refine Kd.C_drew ?_))); (case side2 => exact (Kd.V_reads' HO_0.out).2.1); rintro e w31 ⟨rfl, hb⟩; have n0_ := Aside0.mk (Kd.V_below (by (with_reducible repeat (first | apply Kd.V_alloc | apply Kd.V_drewN | apply Kd.V_drew)); exact HO_0.out) hb); have n1_ := Aside0.mk (Kd.R_below (by (with_reducible repeat (first | apply Kd.R_alloc | apply Kd.R_drewN | apply Kd.R_drew)); exact HO241.out) hb); have n2_ := Aside0.mk (Kd.R_below (by (with_reducible repeat (first | apply Kd.R_alloc | apply Kd.R_drewN | apply Kd.R_drew)); exact HO245.out) hb); have n3_ := Aside0.mk (Kd.R_below (by (with_reducible repeat (first | apply Kd.R_alloc | apply Kd.R_drewN | apply Kd.R_drew)); exact HO249.out) hb); have n4_ := Aside0.mk (below_step (by repeat (first | (with_reducible first | exact HB.out | apply below_alloc | apply pw_below_drewN | apply below_drew1) | exact HB.out)) hb); clear HO_0; clear HO241; clear HO245; clear HO249; clear HB; have HO_0 := n0_; have HO241 := n1_; have HO245 := n2_; have HO249 := n3_; have HB := n4_; clear n0_ n1_ n2_ n3_ n4_; (try clear hb); (try clear hb2); (try clear hk); (try clear hi)) | (go_at_call 17; (with_reducible refine (perm_Order.calls kj2 _ _ t238 t252 t253 _ ?side1 ?side2 A25.out).mono ?_); (case side1 => repeat (first | exact (Kd.R_reads' HO241.out).2.2 | (with_reducible refine Kd.C_alloc ?_ _) | (with_reducible refine Kd.C_drewN ?_ _) | (with_reducible refine Kd.C_drew ?_))); (case side2 => exact (Kd.R_reads' HO241.out).2.1); rintro e w32 ⟨rfl, hb⟩; have n0_ := Aside0.mk (Kd.V_below (by (with_reducible repeat (first | apply Kd.V_alloc | apply Kd.V_drewN | apply Kd.V_drew)); exact HO_0.out) hb); have n1_ := Aside0.mk (Kd.R_below (by (with_reducible repeat (first | apply Kd.R_alloc | apply Kd.R_drewN | apply Kd.R_drew)); exact HO241.out) hb); have n2_ := Aside0.mk (Kd.R_below (by (with_reducible repeat (first | apply Kd.R_alloc | apply Kd.R_drewN | apply Kd.R_drew)); exact HO245.out) hb); have n3_ := Aside0.mk (Kd.R_below (by (with_reducible repeat (first | apply Kd.R_alloc | apply Kd.R_drewN | apply Kd.R_drew)); exact HO249.out) hb); have n4_ := Aside0.mk (below_step (by repeat (first | (with_reducible first | exact HB.out | apply below_alloc | apply pw_below_drewN | apply below_drew1) | exact HB.out)) hb); clear HO_0; clear HO241; clear HO245; clear HO249; clear HB; have HO_0 := n0_; have HO241 := n1_; have HO245 := n2_; have HO249 := n3_; have HB := n4_; clear n0_ n1_ n2_ n3_ n4_; (try clear hb); (try clear hb2); (try clear hk); (try clear hi))); go_upto_region 8 with (first | (go_at_call 15; (with_reducible refine (perm_Pow.calls kj2 _ _ l0 (wrap64 (a1)) t238 t239 _ ?side1 ?side2 A21.out).mono ?_); (case side1 => repeat (first | exact (Kd.V_reads' HO_0.out).2.2 | (with_reducible refine Kd.C_alloc ?_ _) | (with_reducible refine Kd.C_drewN ?_ _) | (with_reducible refine Kd.C_drew ?_))); (case side2 => exact (Kd.V_reads' HO_0.out).2.1); rintro e w27 ⟨v240, rfl, ho0, hb⟩; have n0_ := Aside0.mk (Kd.V_elder' (by (with_reducible repeat (first | apply Kd.V_alloc | apply Kd.V_drewN | apply Kd.V_drew)); exact HO_0.out) (Kd.R_base ho0) hb); have n1_ := Aside0.mk (Kd.R_lower (Kd.R_newM (M := fun k_ => (w.heap.size ≤ k_)) ho0 (below_size (by repeat (first | (with_reducible first | exact HB.out | apply below_alloc | apply pw_below_drewN | apply below_drew1) | exact HB.out))) (fun k_ h_ => h_)) (below_size (by repeat (first | (with_reducible first | exact HB.out | apply below_alloc | apply pw_below_drewN | apply below_drew1) | exact HB.out)))); have n2_ := Aside0.mk (below_step (by repeat (first | (with_reducible first | exact HB.out | apply below_alloc | apply pw_below_drewN | apply below_drew1) | exact HB.out)) hb); clear HO_0; clear HB; have HO_0 := n0_; have HO241 := n1_; have HB := n2_; clear n0_ n1_ n2_; (try clear hb); (try clear hb2); (try clear hk); (try clear hi); (try clear ho0)) | (go_at_call 37; (with_reducible refine (perm_Type.calls kj2 _ _ l0 t242 t243 _ ?side1 ?side2 A22.out).mono ?_); (case side1 => repeat (first | exact (Kd.V_reads' HO_0.out).2.2 | (with_reducible refine Kd.C_alloc ?_ _) | (with_reducible refine Kd.C_drewN ?_ _) | (with_reducible refine Kd.C_drew ?_))); (case side2 => exact (Kd.V_reads' HO_0.out).2.1); rintro e w28 ⟨v244, rfl, ho0, hb⟩; have n0_ := Aside0.mk (Kd.V_elder' (by (with_reducible repeat (first | apply Kd.V_alloc | apply Kd.V_drewN | apply Kd.V_drew)); exact HO_0.out) (Kd.R_base ho0) hb); have n1_ := Aside0.mk (Kd.R_elder' (by (with_reducible repeat (first | apply Kd.R_alloc | apply Kd.R_drewN | apply Kd.R_drew)); exact HO241.out) (Kd.R_base ho0) hb); have n2_ := Aside0.mk (Kd.R_lower (Kd.R_new' (Kd.R_newM (M := fun k_ => (w.heap.size ≤ k_)) ho0 (below_size (by repeat (first | (with_reducible first | exact HB.out | apply below_alloc | apply pw_below_drewN | apply below_drew1) | exact HB.out))) (fun k_ h_ => h_)) (Kd.R_lt (by (with_reducible repeat (first | apply Kd.R_alloc | apply Kd.R_drewN | apply Kd.R_drew)); exact HO241.out))) (below_size (by repeat (first | (with_reducible first | exact HB.out | apply below_alloc | apply pw_below_drewN | apply below_drew1) | exact HB.out)))); have n3_ := Aside0.mk (below_step (by repeat (first | (with_reducible first | exact HB.out | apply below_alloc | apply pw_below_drewN | apply below_drew1) | exact HB.out)) hb); clear HO_0; clear HO241; clear HB; have HO_0 := n0_; have HO241 := n1_; have HO245 := n2_; have HB := n3_; clear n0_ n1_ n2_ n3_; (try clear hb); (try clear hb2); (try clear hk); (try clear hi); (try clear ho0); obtain ⟨Ao29, co29, eo29⟩ := Kd.R_slice HO241.out; subst eo29) | (go_at_call 37; (with_reducible refine (perm_Type.calls kj2 _ _ t238 t246 t247 _ ?side1 ?side2 A23.out).mono ?_); (case side1 => repeat (first | exact (Kd.R_reads' HO241.out).2.2 | (with_reducible refine Kd.C_alloc ?_ _) | (with_reducible refine Kd.C_drewN ?_ _) | (with_reducible refine Kd.C_drew ?_))); (case side2 => exact (Kd.R_reads' HO241.out).2.1); rintro e w30 ⟨v248, rfl, ho0, hb⟩; have n0_ := Aside0.mk (Kd.V_elder' (by (with_reducible repeat (first | apply Kd.V_alloc | apply Kd.V_drewN | apply Kd.V_drew)); exact HO_0.out) (Kd.R_base ho0) hb); have n1_ := Aside0.mk (Kd.R_elder' (by (with_reducible repeat (first | apply Kd.R_alloc | apply Kd.R_drewN | apply Kd.R_drew)); exact HO241.out) (Kd.R_base ho0) hb); have n2_ := Aside0.mk (Kd.R_elder' (by (with_reducible repeat (first | apply Kd.R_alloc | apply Kd.R_drewN | apply Kd.R_drew)); exact HO245.out) (Kd.R_base ho0) hb); have n3_ := Aside0.mk (Kd.R_lower (Kd.R_new' (Kd.R_new' (Kd.R_newM (M := fun k_ => (w.heap.size ≤ k_)) ho0 (below_size (by repeat (first | (with_reducible first | exact HB.out | apply below_alloc | apply pw_below_drewN | apply below_drew1) | exact HB.out))) (fun k_ h_ => h_)) (Kd.R_lt (by (with_reducible repeat (first | apply Kd.R_alloc | apply Kd.R_drewN | apply Kd.R_drew)); exact HO241.out))) (Kd.R_lt (by (with_reducible repeat (first | apply Kd.R_alloc | apply Kd.R_drewN | apply Kd.R_drew)); exact HO245.out))) (below_size (by repeat (first | (with_reducible first | exact HB.out | apply below_alloc | apply pw_below_drewN | apply below_drew1) | exact HB.out)))); have n4_ := Aside0.mk (below_step (by repeat (first | (with_reducible first | exact HB.out | apply below_alloc | apply pw_below_drewN | apply below_drew1) | exact HB.out)) hb); clear HO_0; clear HO241; clear HO245; clear HB; have HO_0 := n0_; have HO241 := n1_; have HO245 := n2_; have HO249 := n3_; have HB := n4_; clear n0_ n1_ n2_ n3_ n4_; (try clear hb); (try clear hb2); (try clear hk); (try clear hi); (try clear ho0)) | (go_at_call 17; (with_reducible refine (perm_Order.calls kj2 _ _ l0 t250 t251 _ ?side1 ?side2 A24.out).mono ?_); (case side1 => repeat (first | exact (Kd.V_reads' HO_0.out).2.2 | (with_reducible refine Kd.C_alloc ?_ _) | (with_reducible refine Kd.C_drewN ?_ _) | (with_reducible refine Kd.C_drew ?_))); (case side2 => exact (Kd.V_reads' HO_0.out).2.1); rintro e w31 ⟨rfl, hb⟩; have n0_ := Aside0.mk (Kd.V_below (by (with_reducible repeat (first | apply Kd.V_alloc | apply Kd.V_drewN | apply Kd.V_drew)); exact HO_0.out) hb); have n1_ := Aside0.mk (Kd.R_below (by (with_reducible repeat (first | apply Kd.R_alloc | apply Kd.R_drewN | apply Kd.R_drew)); exact HO241.out) hb); have n2_ := Aside0.mk (Kd.R_below (by (with_reducible repeat (first | apply Kd.R_alloc | apply Kd.R_drewN | apply Kd.R_drew)); exact HO245.out) hb); have n3_ := Aside0.mk (Kd.R_below (by (with_reducible repeat (first | apply Kd.R_alloc | apply Kd.R_drewN | apply Kd.R_drew)); exact HO249.out) hb); have n4_ := Aside0.mk (below_step (by repeat (first | (with_reducible first | exact HB.out | apply below_alloc | apply pw_below_drewN | apply below_drew1) | exact HB.out)) hb); clear HO_0; clear HO241; clear HO245; clear HO249; clear HB; have HO_0 := n0_; have HO241 := n1_; have HO245 := n2_; have HO249 := n3_; have HB := n4_; clear n0_ n1_ n2_ n3_ n4_; (try clear hb); (try clear hb2); (try clear hk); (try clear hi)) | (go_at_call 17; (with_reducible refine (perm_Order.calls kj2 _ _ t238 t252 t253 _ ?side1 ?side2 A25.out).mono ?_); (case side1 => repeat (first | exact (Kd.R_reads' HO241.out).2.2 | (with_reducible refine Kd.C_alloc ?_ _) | (with_reducible refine Kd.C_drewN ?_ _) | (with_reducible refine Kd.C_drew ?_))); (case side2 => exact (Kd.R_reads' HO241.out).2.1); rintro e w32 ⟨rfl, hb⟩; have n0_ := Aside0.mk (Kd.V_below (by (with_reducible repeat (first | apply Kd.V_alloc | apply Kd.V_drewN | apply Kd.V_drew)); exact HO_0.out) hb); have n1_ := Aside0.mk (Kd.R_below (by (with_reducible repeat (first | apply Kd.R_alloc | apply Kd.R_drewN | apply Kd.R_drew)); exact HO241.out) hb); have n2_ := Aside0.mk (Kd.R_below (by (with_reducible repeat (first | apply Kd.R_alloc | apply Kd.R_drewN | apply Kd.R_drew)); exact HO245.out) hb); have n3_ := Aside0.mk (Kd.R_below (by (with_reducible repeat (first | apply Kd.R_alloc | apply Kd.R_drewN | apply Kd.R_drew)); exact HO249.out) hb); have n4_ := Aside0.mk (below_step (by repeat (first | (with_reducible first | exact HB.out | apply below_alloc | apply pw_below_drewN | apply below_drew1) | exact HB.out)) hb); clear HO_0; clear HO241; clear HO245; clear HO249; clear HB; have HO_0 := n0_; have HO241 := n1_; have HO245 := n2_; have HO249 := n3_; have HB := n4_; clear n0_ n1_ n2_ n3_ n4_; (try clear hb); (try clear hb2); (try clear hk); (try clear hi))))
        (try simp only [Act.put, List.setIfInBounds_toArray, List.set_cons_zero, List.set_cons_succ])
        go_cut [78] (fun v78 wc => ∃ (kq : Nat) (x78_25 : Bool), v78 = .bool x78_25 ∧ Aside0 (galoislaw22_PermSplits.j1 kq l0 a1 t242 t246 t250 t252 x78_25 = some r) ∧ Aside0 (kq ≤ kj2) ∧ Aside0 (Kd.V (Kd.int .i64) 3 wc w.heap.size (fun k_ => (P0_ k_ ∨ w.heap.size ≤ k_) ∧ some k_ ≠ (v244 : Value).ownBlock ∧ some k_ ≠ (v248 : Value).ownBlock) (.slice A0 l0.length c0) l0) ∧ Aside0 (Kd.R (Kd.int .i64) 3 wc w.heap.size (fun k_ => (w.heap.size ≤ k_) ∧ some k_ ≠ (v248 : Value).ownBlock) v244 t242) ∧ Aside0 (Kd.R (Kd.int .i64) 3 wc w.heap.size (fun k_ => (w.heap.size ≤ k_) ∧ some k_ ≠ (v244 : Value).ownBlock) v248 t246) ∧ Aside0 (Below w.heap.size w wc))
        case first =>
          have H := HC26.out
          clear HC26
          by_cases c33 : t239 = 0
          · rw [if_pos c33] at H
            have c33b0 : (t239 == 0) = true := beq_iff_eq.mpr c33
            have c33b1 : (t239 != 0) = false := bne_eq_false_iff_eq.mpr c33
            clear c33
            (first | rw [c33b0] | (simp only [i64_w, i32_w]; rw [c33b0]) | skip)
            by_cases c34 : t243 = 0
            · rw [if_pos c34] at H
              have c34b0 : (t243 == 0) = true := beq_iff_eq.mpr c34
              have c34b1 : (t243 != 0) = false := bne_eq_false_iff_eq.mpr c34
              clear c34
              by_cases c35 : t247 = 0
              · rw [if_pos c35] at H
                have c35b0 : (t247 == 0) = true := beq_iff_eq.mpr c35
                have c35b1 : (t247 != 0) = false := bne_eq_false_iff_eq.mpr c35
                clear c35
                by_cases c36 : t251 = 0
                · rw [if_pos c36] at H
                  have c36b0 : (t251 == 0) = true := beq_iff_eq.mpr c36
                  have c36b1 : (t251 != 0) = false := bne_eq_false_iff_eq.mpr c36
                  clear c36
                  have H' := Aside0.mk H
                  clear H
                  as_aux_lemma =>
                    go_wp2
                    repeat (go_quiet (fail); try go_wp2)
                    go_meet
                    case rel => exact ⟨_, ((t253 != 0)), (by first | rfl | (simp; done) | (simp [*]; done)), H', ⟨by have := HJ2.out; first | omega | exact Nat.le_refl _⟩, ⟨by (with_reducible repeat (first | apply Kd.V_alloc | apply Kd.V_drewN | apply Kd.V_drew)); exact Kd.V_mono HO_0.out (fun _ hk => ⟨hk.1.1.1, ⟨hk.1.2, hk.2⟩⟩)⟩, ⟨by (with_reducible repeat (first | apply Kd.R_alloc | apply Kd.R_drewN | apply Kd.R_drew)); exact Kd.R_mono HO245.out (fun _ hk => ⟨hk.1.1.1, hk.2⟩)⟩, ⟨by (with_reducible repeat (first | apply Kd.R_alloc | apply Kd.R_drewN | apply Kd.R_drew)); exact Kd.R_mono HO249.out (fun _ hk => ⟨hk.1.1.1, hk.2⟩)⟩, ⟨by repeat (first | (with_reducible first | exact HB.out | apply below_alloc | apply pw_below_drewN | apply below_drew1) | exact HB.out)⟩⟩
                · rw [if_neg c36] at H
                  have c36b0 : (t251 == 0) = false := beq_eq_false_iff_ne.mpr c36
                  have c36b1 : (t251 != 0) = true := bne_iff_ne.mpr c36
                  have H' := Aside0.mk H
                  clear H
                  as_aux_lemma =>
                    go_wp2
                    repeat (go_quiet (fail); try go_wp2)
                    go_meet
                    case rel => exact ⟨_, (true), (by first | rfl | (simp; done) | (simp [*]; done)), H', ⟨by have := HJ2.out; first | omega | exact Nat.le_refl _⟩, ⟨by (with_reducible repeat (first | apply Kd.V_alloc | apply Kd.V_drewN | apply Kd.V_drew)); exact Kd.V_mono HO_0.out (fun _ hk => ⟨hk.1.1.1, ⟨hk.1.2, hk.2⟩⟩)⟩, ⟨by (with_reducible repeat (first | apply Kd.R_alloc | apply Kd.R_drewN | apply Kd.R_drew)); exact Kd.R_mono HO245.out (fun _ hk => ⟨hk.1.1.1, hk.2⟩)⟩, ⟨by (with_reducible repeat (first | apply Kd.R_alloc | apply Kd.R_drewN | apply Kd.R_drew)); exact Kd.R_mono HO249.out (fun _ hk => ⟨hk.1.1.1, hk.2⟩)⟩, ⟨by repeat (first | (with_reducible first | exact HB.out | apply below_alloc | apply pw_below_drewN | apply below_drew1) | exact HB.out)⟩⟩
              · rw [if_neg c35] at H
                have c35b0 : (t247 == 0) = false := beq_eq_false_iff_ne.mpr c35
                have c35b1 : (t247 != 0) = true := bne_iff_ne.mpr c35
                have H' := Aside0.mk H
                clear H
                as_aux_lemma =>
                  go_wp2
                  repeat (go_quiet (fail); try go_wp2)
                  go_meet
                  case rel => exact ⟨_, (true), (by first | rfl | (simp; done) | (simp [*]; done)), H', ⟨by have := HJ2.out; first | omega | exact Nat.le_refl _⟩, ⟨by (with_reducible repeat (first | apply Kd.V_alloc | apply Kd.V_drewN | apply Kd.V_drew)); exact Kd.V_mono HO_0.out (fun _ hk => ⟨hk.1.1.1, ⟨hk.1.2, hk.2⟩⟩)⟩, ⟨by (with_reducible repeat (first | apply Kd.R_alloc | apply Kd.R_drewN | apply Kd.R_drew)); exact Kd.R_mono HO245.out (fun _ hk => ⟨hk.1.1.1, hk.2⟩)⟩, ⟨by (with_reducible repeat (first | apply Kd.R_alloc | apply Kd.R_drewN | apply Kd.R_drew)); exact Kd.R_mono HO249.out (fun _ hk => ⟨hk.1.1.1, hk.2⟩)⟩, ⟨by repeat (first | (with_reducible first | exact HB.out | apply below_alloc | apply pw_below_drewN | apply below_drew1) | exact HB.out)⟩⟩
            · rw [if_neg c34] at H
              have c34b0 : (t243 == 0) = false := beq_eq_false_iff_ne.mpr c34
              have c34b1 : (t243 != 0) = true := bne_iff_ne.mpr c34
              have H' := Aside0.mk H
              clear H
              as_aux_lemma =>
                go_wp2
                repeat (go_quiet (fail); try go_wp2)
                go_meet
                case rel => exact ⟨_, (true), (by first | rfl | (simp; done) | (simp [*]; done)), H', ⟨by have := HJ2.out; first | omega | exact Nat.le_refl _⟩, ⟨by (with_reducible repeat (first | apply Kd.V_alloc | apply Kd.V_drewN | apply Kd.V_drew)); exact Kd.V_mono HO_0.out (fun _ hk => ⟨hk.1.1.1, ⟨hk.1.2, hk.2⟩⟩)⟩, ⟨by (with_reducible repeat (first | apply Kd.R_alloc | apply Kd.R_drewN | apply Kd.R_drew)); exact Kd.R_mono HO245.out (fun _ hk => ⟨hk.1.1.1, hk.2⟩)⟩, ⟨by (with_reducible repeat (first | apply Kd.R_alloc | apply Kd.R_drewN | apply Kd.R_drew)); exact Kd.R_mono HO249.out (fun _ hk => ⟨hk.1.1.1, hk.2⟩)⟩, ⟨by repeat (first | (with_reducible first | exact HB.out | apply below_alloc | apply pw_below_drewN | apply below_drew1) | exact HB.out)⟩⟩
          · rw [if_neg c33] at H
            have c33b0 : (t239 == 0) = false := beq_eq_false_iff_ne.mpr c33
            have c33b1 : (t239 != 0) = true := bne_iff_ne.mpr c33
            (first | rw [c33b0] | (simp only [i64_w, i32_w]; rw [c33b0]) | skip)
            have H' := Aside0.mk H
            clear H
            as_aux_lemma =>
              go_wp2
              repeat (go_quiet (fail); try go_wp2)
              go_meet
              case rel => exact ⟨_, (true), (by first | rfl | (simp; done) | (simp [*]; done)), H', ⟨by have := HJ2.out; first | omega | exact Nat.le_refl _⟩, ⟨by (with_reducible repeat (first | apply Kd.V_alloc | apply Kd.V_drewN | apply Kd.V_drew)); exact Kd.V_mono HO_0.out (fun _ hk => ⟨hk.1.1.1, ⟨hk.1.2, hk.2⟩⟩)⟩, ⟨by (with_reducible repeat (first | apply Kd.R_alloc | apply Kd.R_drewN | apply Kd.R_drew)); exact Kd.R_mono HO245.out (fun _ hk => ⟨hk.1.1.1, hk.2⟩)⟩, ⟨by (with_reducible repeat (first | apply Kd.R_alloc | apply Kd.R_drewN | apply Kd.R_drew)); exact Kd.R_mono HO249.out (fun _ hk => ⟨hk.1.1.1, hk.2⟩)⟩, ⟨by repeat (first | (with_reducible first | exact HB.out | apply below_alloc | apply pw_below_drewN | apply below_drew1) | exact HB.out)⟩⟩
        case rest =>
          clear HC26
          try clear c1
          try clear p2
          try clear c3
          try clear c5
          try clear p6
          try clear c7
          try clear c18
          try clear c33
          try clear c33b0
          try clear c33b1
          try clear c34
          try clear c34b0
          try clear c34b1
          try clear c35
          try clear c35b0
          try clear c35b1
          try clear c36
          try clear c36b0
          try clear c36b1
          try clear p2
          obtain ⟨kq, x78_25, rfl, HA, HJ25, HO_0, HO_7, HO_9, HB⟩ := hcut
          cases kq with
          | zero => exact absurd HA.out (by simp [galoislaw22_PermSplits.j1])
          | succ kj25 =>
            have H := HA.out
            clear HA
            simp only [galoislaw22_PermSplits.j1] at H
            by_cases c37 : x78_25 = true
            · subst c37
              have H1 : (some false) = some r := by rw [if_pos rfl] at H; exact H
              clear H
              have H := H1
              clear H1
              obtain rfl := Option.some.inj H
              as_aux_lemma =>
                go_wp2
                repeat (go_quiet (fail); try go_wp2)
                go_ret
                exact ⟨by first | rfl | (simp [errW_none, errW_some] <;> rfl) | (simp [*, errW_none, errW_some] <;> rfl), by repeat (first | (with_reducible first | exact HB.out | apply below_alloc | apply pw_below_drewN | apply below_drew1) | exact HB.out)⟩
            · replace c37 := Bool.eq_false_iff.mpr c37
              subst c37
              have H1 : (if 0 ≤ (wrap64 ((l0.length : Int) + 1)) then (if (wrap64 ((l0.length : Int) + 1) : Int).toNat ≤ 35184372088832 then (galoislaw22_PermSplits.l0 kj25 l0 a1 t242 t246 t250 t252 (List.replicate (wrap64 ((l0.length : Int) + 1) : Int).toNat 0) 0) else (none)) else (none)) = some r := by rw [if_neg (show ¬ (false = true) by decide)] at H; exact H
              clear H
              have H := H1
              clear H1
              obtain ⟨ji38, hji38⟩ : ∃ j_ : Int, (wrap64 ((l0.length : Int) + 1)) = j_ := ⟨_, rfl⟩
              replace H : (if 0 ≤ (ji38) then (if (ji38 : Int).toNat ≤ 35184372088832 then (galoislaw22_PermSplits.l0 kj25 l0 a1 t242 t246 t250 t252 (List.replicate (ji38 : Int).toNat 0) 0) else (none)) else (none)) = some r := by first | (rw [hji38] at H; exact H) | (simp only [hji38] at H ⊢; exact H)
              have hji38w : (IntKind.i64.wrap ((l0.length : Int) + 1)) = ji38 := (i64_w _).trans hji38
              by_cases c39 : 0 ≤ (ji38)
              · rw [if_pos c39] at H
                have c39b0 := eq_true c39
                have c39b1 : decide (0 ≤ (ji38)) = true := decide_eq_true c39
                clear c39
                by_cases c40 : (ji38 : Int).toNat ≤ 35184372088832
                · rw [if_pos c40] at H
                  have c40b0 := eq_true c40
                  have c40b1 : decide ((ji38 : Int).toNat ≤ 35184372088832) = true := decide_eq_true c40
                  clear c40
                  obtain ⟨y254, hy254⟩ : ∃ y_ : List Int, y_ = (List.replicate (ji38 : Int).toNat 0) := ⟨_, rfl⟩
                  replace H : (galoislaw22_PermSplits.l0 kj25 l0 a1 t242 t246 t250 t252 y254 0) = some r := by first | (rw [hy254]; with_reducible exact H) | (have H2_ := (Option.bind_some _ _).symm.trans H; rw [hy254]; with_reducible exact H2_) | (have H2_ := (Option.bind_some _ _).symm.trans H; with_reducible exact H2_) | with_reducible exact H | (rw [hy254]; exact H) | exact H
                  have Ny254 := Aside0.mk hy254
                  clear hy254
                  have H' := Aside0.mk H
                  clear H
                  as_aux_lemma =>
                    go_wp2_with (first | ((with_reducible refine gate_dst (N := 82) rfl ?_); (try (refine gate_guard (by rfl) ?_; dsimp only)); refine Kd.R_make (Kd.int .i64) _ 3 rfl (N := 82) rfl 22 _ _ rfl ji38 rfl rfl Tryd.underlying22 (.int .i64 0) 8 info3 rfl (by decide) (by omega) 0 (ok := fun _ => True) (okp := fun _ => True) rfl (fun _ hk => hk) trivial (of_decide_eq_true (by first | (with_reducible assumption) | assumption)) (Nat.le_trans (Nat.mul_le_mul_right _ (of_decide_eq_true (by first | (with_reducible assumption) | assumption) : ji38.toNat ≤ 35184372088832)) (by omega)) (Below.refl _ _) (Nat.le_refl _) ?_; intro v255 w41 ho42 hb hg_ hnew_; clear hg_ hnew_; (first | rw [← Ny254.out] at ho42 | (simp only [Int.reduceToNat] at ho42; rw [← Ny254.out] at ho42)); have n0_ := Aside0.mk (Kd.V_elder' (by (with_reducible repeat (first | apply Kd.V_alloc | apply Kd.V_drewN | apply Kd.V_drew)); exact HO_0.out) (Kd.R_base ho42) hb); have n1_ := Aside0.mk (Kd.R_elder' (by (with_reducible repeat (first | apply Kd.R_alloc | apply Kd.R_drewN | apply Kd.R_drew)); exact HO_7.out) (Kd.R_base ho42) hb); have n2_ := Aside0.mk (Kd.R_elder' (by (with_reducible repeat (first | apply Kd.R_alloc | apply Kd.R_drewN | apply Kd.R_drew)); exact HO_9.out) (Kd.R_base ho42) hb); have n3_ := Aside0.mk (Kd.R_lower (Kd.R_new' (Kd.R_new' (Kd.R_newM (M := fun k_ => (w.heap.size ≤ k_)) ho42 (below_size (by repeat (first | (with_reducible first | exact HB.out | apply below_alloc | apply pw_below_drewN | apply below_drew1) | exact HB.out))) (fun k_ h_ => h_)) (Kd.R_lt (by (with_reducible repeat (first | apply Kd.R_alloc | apply Kd.R_drewN | apply Kd.R_drew)); exact HO_7.out))) (Kd.R_lt (by (with_reducible repeat (first | apply Kd.R_alloc | apply Kd.R_drewN | apply Kd.R_drew)); exact HO_9.out))) (below_size (by repeat (first | (with_reducible first | exact HB.out | apply below_alloc | apply pw_below_drewN | apply below_drew1) | exact HB.out)))); have n4_ := Aside0.mk (below_step (by repeat (first | (with_reducible first | exact HB.out | apply below_alloc | apply pw_below_drewN | apply below_drew1) | exact HB.out)) hb); clear HO_0; clear HO_7; clear HO_9; clear HB; have HO_0 := n0_; have HO_7 := n1_; have HO_9 := n2_; have HO256 := n3_; have HB := n4_; clear n0_ n1_ n2_ n3_ n4_; clear hb ho42))
                    repeat (go_quiet (first | ((with_reducible refine gate_dst (N := 82) rfl ?_); (try (refine gate_guard (by rfl) ?_; dsimp only)); refine Kd.R_make (Kd.int .i64) _ 3 rfl (N := 82) rfl 22 _ _ rfl ji38 rfl rfl Tryd.underlying22 (.int .i64 0) 8 info3 rfl (by decide) (by omega) 0 (ok := fun _ => True) (okp := fun _ => True) rfl (fun _ hk => hk) trivial (of_decide_eq_true (by first | (with_reducible assumption) | assumption)) (Nat.le_trans (Nat.mul_le_mul_right _ (of_decide_eq_true (by first | (with_reducible assumption) | assumption) : ji38.toNat ≤ 35184372088832)) (by omega)) (Below.refl _ _) (Nat.le_refl _) ?_; intro v255 w41 ho42 hb hg_ hnew_; clear hg_ hnew_; (first | rw [← Ny254.out] at ho42 | (simp only [Int.reduceToNat] at ho42; rw [← Ny254.out] at ho42)); have n0_ := Aside0.mk (Kd.V_elder' (by (with_reducible repeat (first | apply Kd.V_alloc | apply Kd.V_drewN | apply Kd.V_drew)); exact HO_0.out) (Kd.R_base ho42) hb); have n1_ := Aside0.mk (Kd.R_elder' (by (with_reducible repeat (first | apply Kd.R_alloc | apply Kd.R_drewN | apply Kd.R_drew)); exact HO_7.out) (Kd.R_base ho42) hb); have n2_ := Aside0.mk (Kd.R_elder' (by (with_reducible repeat (first | apply Kd.R_alloc | apply Kd.R_drewN | apply Kd.R_drew)); exact HO_9.out) (Kd.R_base ho42) hb); have n3_ := Aside0.mk (Kd.R_lower (Kd.R_new' (Kd.R_new' (Kd.R_newM (M := fun k_ => (w.heap.size ≤ k_)) ho42 (below_size (by repeat (first | (with_reducible first | exact HB.out | apply below_alloc | apply pw_below_drewN | apply below_drew1) | exact HB.out))) (fun k_ h_ => h_)) (Kd.R_lt (by (with_reducible repeat (first | apply Kd.R_alloc | apply Kd.R_drewN | apply Kd.R_drew)); exact HO_7.out))) (Kd.R_lt (by (with_reducible repeat (first | apply Kd.R_alloc | apply Kd.R_drewN | apply Kd.R_drew)); exact HO_9.out))) (below_size (by repeat (first | (with_reducible first | exact HB.out | apply below_alloc | apply pw_below_drewN | apply below_drew1) | exact HB.out)))); have n4_ := Aside0.mk (below_step (by repeat (first | (with_reducible first | exact HB.out | apply below_alloc | apply pw_below_drewN | apply below_drew1) | exact HB.out)) hb); clear HO_0; clear HO_7; clear HO_9; clear HB; have HO_0 := n0_; have HO_7 := n1_; have HO_9 := n2_; have HO256 := n3_; have HB := n4_; clear n0_ n1_ n2_ n3_ n4_; clear hb ho42)); try go_wp2_with (first | ((with_reducible refine gate_dst (N := 82) rfl ?_); (try (refine gate_guard (by rfl) ?_; dsimp only)); refine Kd.R_make (Kd.int .i64) _ 3 rfl (N := 82) rfl 22 _ _ rfl ji38 rfl rfl Tryd.underlying22 (.int .i64 0) 8 info3 rfl (by decide) (by omega) 0 (ok := fun _ => True) (okp := fun _ => True) rfl (fun _ hk => hk) trivial (of_decide_eq_true (by first | (with_reducible assumption) | assumption)) (Nat.le_trans (Nat.mul_le_mul_right _ (of_decide_eq_true (by first | (with_reducible assumption) | assumption) : ji38.toNat ≤ 35184372088832)) (by omega)) (Below.refl _ _) (Nat.le_refl _) ?_; intro v255 w41 ho42 hb hg_ hnew_; clear hg_ hnew_; (first | rw [← Ny254.out] at ho42 | (simp only [Int.reduceToNat] at ho42; rw [← Ny254.out] at ho42)); have n0_ := Aside0.mk (Kd.V_elder' (by (with_reducible repeat (first | apply Kd.V_alloc | apply Kd.V_drewN | apply Kd.V_drew)); exact HO_0.out) (Kd.R_base ho42) hb); have n1_ := Aside0.mk (Kd.R_elder' (by (with_reducible repeat (first | apply Kd.R_alloc | apply Kd.R_drewN | apply Kd.R_drew)); exact HO_7.out) (Kd.R_base ho42) hb); have n2_ := Aside0.mk (Kd.R_elder' (by (with_reducible repeat (first | apply Kd.R_alloc | apply Kd.R_drewN | apply Kd.R_drew)); exact HO_9.out) (Kd.R_base ho42) hb); have n3_ := Aside0.mk (Kd.R_lower (Kd.R_new' (Kd.R_new' (Kd.R_newM (M := fun k_ => (w.heap.size ≤ k_)) ho42 (below_size (by repeat (first | (with_reducible first | exact HB.out | apply below_alloc | apply pw_below_drewN | apply below_drew1) | exact HB.out))) (fun k_ h_ => h_)) (Kd.R_lt (by (with_reducible repeat (first | apply Kd.R_alloc | apply Kd.R_drewN | apply Kd.R_drew)); exact HO_7.out))) (Kd.R_lt (by (with_reducible repeat (first | apply Kd.R_alloc | apply Kd.R_drewN | apply Kd.R_drew)); exact HO_9.out))) (below_size (by repeat (first | (with_reducible first | exact HB.out | apply below_alloc | apply pw_below_drewN | apply below_drew1) | exact HB.out)))); have n4_ := Aside0.mk (below_step (by repeat (first | (with_reducible first | exact HB.out | apply below_alloc | apply pw_below_drewN | apply below_drew1) | exact HB.out)) hb); clear HO_0; clear HO_7; clear HO_9; clear HB; have HO_0 := n0_; have HO_7 := n1_; have HO_9 := n2_; have HO256 := n3_; have HB := n4_; clear n0_ n1_ n2_ n3_ n4_; clear hb ho42)))
                    go_loopg [16] kj25 (fun kq v16 w' => ∃ (x15_3 : List Int) (x16_3 : Int), v16 = .int .i64 x16_3 ∧ Aside0 (galoislaw22_PermSplits.l0 kq l0 a1 t242 t246 t250 t252 x15_3 x16_3 = some r) ∧ Aside0 (kq ≤ kj25) ∧ Aside0 (Kd.V (Kd.int .i64) 3 w' w.heap.size (fun k_ => (P0_ k_ ∨ w.heap.size ≤ k_) ∧ some k_ ≠ (v244 : Value).ownBlock ∧ some k_ ≠ (v248 : Value).ownBlock ∧ some k_ ≠ (v255 : Value).ownBlock) (.slice A0 l0.length c0) l0) ∧ Aside0 (Kd.R (Kd.int .i64) 3 w' w.heap.size (fun k_ => (w.heap.size ≤ k_) ∧ some k_ ≠ (v248 : Value).ownBlock ∧ some k_ ≠ (v255 : Value).ownBlock) v244 t242) ∧ Aside0 (Kd.R (Kd.int .i64) 3 w' w.heap.size (fun k_ => (w.heap.size ≤ k_) ∧ some k_ ≠ (v244 : Value).ownBlock ∧ some k_ ≠ (v255 : Value).ownBlock) v248 t246) ∧ Aside0 (Kd.R (Kd.int .i64) 3 w' w.heap.size (fun k_ => (w.heap.size ≤ k_) ∧ some k_ ≠ (v244 : Value).ownBlock ∧ some k_ ≠ (v248 : Value).ownBlock) v255 x15_3) ∧ Aside0 (Below w.heap.size w w'))
                    case atStart => exact ⟨(y254), (0), (by first | rfl | (simp; done) | (simp [*]; done)), H', ⟨Nat.le_refl _⟩, ⟨by (with_reducible repeat (first | apply Kd.V_alloc | apply Kd.V_drewN | apply Kd.V_drew)); exact Kd.V_mono HO_0.out (fun _ hk => ⟨hk.1.1, ⟨hk.1.2.1, ⟨hk.1.2.2, hk.2⟩⟩⟩)⟩, ⟨by (with_reducible repeat (first | apply Kd.R_alloc | apply Kd.R_drewN | apply Kd.R_drew)); exact Kd.R_mono HO_7.out (fun _ hk => ⟨hk.1.1, ⟨hk.1.2, hk.2⟩⟩)⟩, ⟨by (with_reducible repeat (first | apply Kd.R_alloc | apply Kd.R_drewN | apply Kd.R_drew)); exact Kd.R_mono HO_9.out (fun _ hk => ⟨hk.1.1, ⟨hk.1.2, hk.2⟩⟩)⟩, ⟨by (with_reducible repeat (first | apply Kd.R_alloc | apply Kd.R_drewN | apply Kd.R_drew)); exact Kd.R_mono HO256.out (fun _ hk => ⟨hk.1.1.1, ⟨hk.1.2, hk.2⟩⟩)⟩, ⟨by repeat (first | (with_reducible first | exact HB.out | apply below_alloc | apply pw_below_drewN | apply below_drew1) | exact HB.out)⟩⟩
                    case round =>
                      clear H'
                      try clear c1
                      try clear p2
                      try clear c3
                      try clear c4
                      try clear c5
                      try clear p6
                      try clear c7
                      try clear c18
                      try clear c33
                      try clear c33b0
                      try clear c33b1
                      try clear c34
                      try clear c34b0
                      try clear c34b1
                      try clear c35
                      try clear c35b0
                      try clear c35b1
                      try clear c36
                      try clear c36b0
                      try clear c36b1
                      try clear c37
                      try clear c39
                      try clear c39b0
                      try clear c39b1
                      try clear c40
                      try clear c40b0
                      try clear c40b1
                      try clear p2
                      try clear p6
                      obtain ⟨x15_3, x16_3, rfl, HA, HK3, HO_0, HO_7, HO_9, HO_15, HB⟩ := hrel
                      cases gk with
                      | zero => exact absurd HA.out (by simp [galoislaw22_PermSplits.l0])
                      | succ k3 =>
                        have H := HA.out
                        clear HA
                        simp only [galoislaw22_PermSplits.l0] at H
                        by_cases c43 : x16_3 < (t242.length : Int)
                        · rw [if_pos c43] at H
                          have c43b0 : decide (x16_3 < (t242.length : Int)) = true := decide_eq_true c43
                          clear c43
                          by_cases c44 : 0 ≤ x16_3
                          · rw [if_pos c44] at H
                            have c44b0 : decide (0 ≤ x16_3) = true := decide_eq_true c44
                            clear c44
                            by_cases c45 : (rd t242 x16_3) < 1
                            · rw [if_pos c45] at H
                              have c45b0 : decide ((rd t242 x16_3) < 1) = true := decide_eq_true c45
                              clear c45
                              obtain rfl := Option.some.inj H
                              obtain ⟨Ao46, co46, eo46⟩ := Kd.R_slice HO_7.out
                              subst eo46
                              have p257 : 0 ≤ (x16_3 : Int) := of_decide_eq_true (by first | (with_reducible assumption) | assumption)
                              have q257 : x16_3 < (t242.length : Int) := of_decide_eq_true (by first | (with_reducible assumption) | assumption)
                              obtain ⟨ad257, e257, hx257_0⟩ := Kd.at_int (Kd.R_reads' HO_7.out).2.2 x16_3 p257 q257
                              cases e257
                              replace p257 := eq_true p257
                              replace q257 := eq_true q257
                              as_aux_lemma =>
                                go_wp2
                                repeat (go_quiet (fail); try go_wp2)
                                go_ret
                                exact ⟨by first | rfl | (simp [errW_none, errW_some] <;> rfl) | (simp only [← hji38]; first | rfl | (simp [errW_none, errW_some] <;> rfl)) | (simp [*, errW_none, errW_some] <;> rfl), by repeat (first | (with_reducible first | exact HB.out | apply below_alloc | apply pw_below_drewN | apply below_drew1) | exact HB.out)⟩
                            · rw [if_neg c45] at H
                              have c45b0 : decide ((rd t242 x16_3) < 1) = false := decide_eq_false c45
                              clear c45
                              by_cases c47 : (rd t242 x16_3) > (l0.length : Int)
                              · rw [if_pos c47] at H
                                have c47b0 : decide ((l0.length : Int) < (rd t242 x16_3)) = true := decide_eq_true c47
                                clear c47
                                obtain rfl := Option.some.inj H
                                obtain ⟨Ao48, co48, eo48⟩ := Kd.R_slice HO_7.out
                                subst eo48
                                have p257 : 0 ≤ (x16_3 : Int) := of_decide_eq_true (by first | (with_reducible assumption) | assumption)
                                have q257 : x16_3 < (t242.length : Int) := of_decide_eq_true (by first | (with_reducible assumption) | assumption)
                                obtain ⟨ad257, e257, hx257_0⟩ := Kd.at_int (Kd.R_reads' HO_7.out).2.2 x16_3 p257 q257
                                cases e257
                                replace p257 := eq_true p257
                                replace q257 := eq_true q257
                                have p258 : 0 ≤ (x16_3 : Int) := of_decide_eq_true (by first | (with_reducible assumption) | assumption)
                                have q258 : x16_3 < (t242.length : Int) := of_decide_eq_true (by first | (with_reducible assumption) | assumption)
                                obtain ⟨ad258, e258, hx258_0⟩ := Kd.at_int (Kd.R_reads' HO_7.out).2.2 x16_3 p258 q258
                                obtain rfl : ad257 = ad258 := (by injection e258)
                                replace p258 := eq_true p258
                                replace q258 := eq_true q258
                                as_aux_lemma =>
                                  go_wp2
                                  repeat (go_quiet (fail); try go_wp2)
                                  go_ret
                                  exact ⟨by first | rfl | (simp [errW_none, errW_some] <;> rfl) | (simp only [← hji38]; first | rfl | (simp [errW_none, errW_some] <;> rfl)) | (simp [*, errW_none, errW_some] <;> rfl), by repeat (first | (with_reducible first | exact HB.out | apply below_alloc | apply pw_below_drewN | apply below_drew1) | exact HB.out)⟩
                              · rw [if_neg c47] at H
                                have c47b0 : decide ((l0.length : Int) < (rd t242 x16_3)) = false := decide_eq_false c47
                                clear c47
                                replace H := Option.bind_eq_some_iff.mp H
                                obtain ⟨t260, A490, H⟩ := H
                                replace H : (if t260 = 0 then (none) else (if 0 ≤ (wrap64 (Int.tdiv (rd t242 x16_3) t260)) then (if (wrap64 (Int.tdiv (rd t242 x16_3) t260)) < (x15_3.length : Int) then (galoislaw22_PermSplits.l0 k3 l0 a1 t242 t246 t250 t252 (x15_3.set ((wrap64 (Int.tdiv (rd t242 x16_3) t260)) : Int).toNat (wrap64 ((rd x15_3 (wrap64 (Int.tdiv (rd t242 x16_3) t260))) + t260))) (wrap64 (x16_3 + 1))) else (none)) else (none))) = some r := H
                                have A49 := Aside0.mk A490
                                clear A490
                                by_cases c50 : t260 = 0
                                · rw [if_pos c50] at H
                                  exact absurd H (by simp)
                                · rw [if_neg c50] at H
                                  have c50b0 : (t260 == 0) = false := beq_eq_false_iff_ne.mpr c50
                                  have c50b1 : (t260 != 0) = true := bne_iff_ne.mpr c50
                                  obtain ⟨ji51, hji51⟩ : ∃ j_ : Int, (wrap64 (Int.tdiv (rd t242 x16_3) t260)) = j_ := ⟨_, rfl⟩
                                  replace H : (if 0 ≤ (ji51) then (if (ji51) < (x15_3.length : Int) then (galoislaw22_PermSplits.l0 k3 l0 a1 t242 t246 t250 t252 (x15_3.set ((ji51) : Int).toNat (wrap64 ((rd x15_3 (ji51)) + t260))) (wrap64 (x16_3 + 1))) else (none)) else (none)) = some r := by first | (rw [hji51] at H; exact H) | (simp only [hji51] at H ⊢; exact H)
                                  (try rw [hji51] at A49)
                                  have hji51w : (IntKind.i64.wrap (Int.tdiv (rd t242 x16_3) t260)) = ji51 := (i64_w _).trans hji51
                                  by_cases c52 : 0 ≤ (ji51)
                                  · rw [if_pos c52] at H
                                    have c52b0 : decide (0 ≤ (ji51)) = true := decide_eq_true c52
                                    clear c52
                                    by_cases c53 : (ji51) < (x15_3.length : Int)
                                    · rw [if_pos c53] at H
                                      have c53b0 : decide ((ji51) < (x15_3.length : Int)) = true := decide_eq_true c53
                                      clear c53
                                      obtain ⟨y263, hy263⟩ : ∃ y_ : List Int, y_ = (x15_3.set ((ji51) : Int).toNat (wrap64 ((rd x15_3 (ji51)) + t260))) := ⟨_, rfl⟩
                                      replace H : (galoislaw22_PermSplits.l0 k3 l0 a1 t242 t246 t250 t252 y263 (wrap64 (x16_3 + 1))) = some r := by first | (rw [hy263]; with_reducible exact H) | (have H2_ := (Option.bind_some _ _).symm.trans H; rw [hy263]; with_reducible exact H2_) | (have H2_ := (Option.bind_some _ _).symm.trans H; with_reducible exact H2_) | with_reducible exact H | (rw [hy263]; exact H) | exact H
                                      have Ny263 := Aside0.mk hy263
                                      clear hy263
                                      have H' := Aside0.mk H
                                      clear H
                                      obtain ⟨Ao55, co55, eo55⟩ := Kd.R_slice HO_7.out
                                      subst eo55
                                      have p257 : 0 ≤ (x16_3 : Int) := of_decide_eq_true (by first | (with_reducible assumption) | assumption)
                                      have q257 : x16_3 < (t242.length : Int) := of_decide_eq_true (by first | (with_reducible assumption) | assumption)
                                      obtain ⟨ad257, e257, hx257_0⟩ := Kd.at_int (Kd.R_reads' HO_7.out).2.2 x16_3 p257 q257
                                      cases e257
                                      replace p257 := eq_true p257
                                      replace q257 := eq_true q257
                                      have p258 : 0 ≤ (x16_3 : Int) := of_decide_eq_true (by first | (with_reducible assumption) | assumption)
                                      have q258 : x16_3 < (t242.length : Int) := of_decide_eq_true (by first | (with_reducible assumption) | assumption)
                                      obtain ⟨ad258, e258, hx258_0⟩ := Kd.at_int (Kd.R_reads' HO_7.out).2.2 x16_3 p258 q258
                                      obtain rfl : ad257 = ad258 := (by injection e258)
                                      replace p258 := eq_true p258
                                      replace q258 := eq_true q258
                                      have p259 : 0 ≤ (x16_3 : Int) := of_decide_eq_true (by first | (with_reducible assumption) | assumption)
                                      have q259 : x16_3 < (t242.length : Int) := of_decide_eq_true (by first | (with_reducible assumption) | assumption)
                                      obtain ⟨ad259, e259, hx259_0⟩ := Kd.at_int (Kd.R_reads' HO_7.out).2.2 x16_3 p259 q259
                                      obtain rfl : ad257 = ad259 := (by injection e259)
                                      replace p259 := eq_true p259
                                      replace q259 := eq_true q259
                                      as_aux_lemma =>
                                        go_wp2_with (first | (go_at_call 38; (with_reducible refine (galoislaw22_gcd.calls k3 (rd t242 x16_3) (wrap64 (a1)) t260 _ A49.out).mono ?_); rintro e w' ⟨rfl, ⟨nd, rfl⟩⟩; (try first | exact ⟨rfl, _, World.drewN_drewN _ _ _⟩ | exact ⟨rfl, _, Eq.trans (World.drewN_drewN _ _ _) (congrArg (World.drewN _) (Nat.add_assoc _ _ _))⟩); have p261 : 0 ≤ (x16_3 : Int) := of_decide_eq_true (by first | (with_reducible assumption) | assumption); have q261 : x16_3 < (t242.length : Int) := of_decide_eq_true (by first | (with_reducible assumption) | assumption); obtain ⟨ad261, e261, hx261_0⟩ := Kd.at_int (Kd.R_reads' HO_7.out).2.2 x16_3 p261 q261; obtain rfl : ad257 = ad261 := (by injection e261); replace p261 := eq_true p261; replace q261 := eq_true q261; obtain ⟨Ao56, co56, eo56⟩ := Kd.R_slice HO_15.out; subst eo56; have p262 : 0 ≤ ((ji51) : Int) := of_decide_eq_true (by first | (with_reducible assumption) | assumption); have q262 : (ji51) < (x15_3.length : Int) := of_decide_eq_true (by first | (with_reducible assumption) | assumption); obtain ⟨ad262, e262, hx262_0⟩ := Kd.at_int (Kd.R_reads' HO_15.out).2.2 (ji51) p262 q262; cases e262; replace p262 := eq_true p262; replace q262 := eq_true q262; have p54 : 0 ≤ ((ji51) : Int) := of_decide_eq_true (by first | (with_reducible assumption) | assumption); have q54 : ((ji51) : Int) < ((x15_3.length : Int) : Int) := of_decide_eq_true (by first | (with_reducible assumption) | assumption); obtain ⟨go54, co54, eo54, gb54, gl54, cl54, HG54⟩ := Kd.R_form HO_15.out (by omega); (first | cases eo54 | (injection eo54 with ea_ en_ ec_; (first | subst ea_ | (injection ea_ with ea_; subst ea_)); subst ec_; clear en_)); have GB54 := Aside0.mk gb54; have GG54 := Aside0.mk HG54; clear gb54 gl54 HG54; (first | simp only [add_plain] at hx262_0 | skip); obtain ⟨hx54_0, hf54_0⟩ := Kd.R_celln 0 HO_15.out ((ji51) : Int) p54 q54; replace p54 := eq_true p54; replace q54 := eq_true q54; obtain ⟨hy57_, hz57_⟩ := Kd.R_celln 0 HO_15.out ((ji51) : Int) (of_decide_eq_true (by first | (with_reducible assumption) | assumption)) (of_decide_eq_true (by first | (with_reducible assumption) | assumption)); have HP57 := Kd.R_putg HO_15.out ((ji51) : Int) (wrap64 ((rd x15_3 (ji51)) + t260))) | ((with_reducible refine gate_store (t := 3) (p := 121) rfl ?_); (try (rw [drewN_self wr]; generalize hq_ : World.drewN wr _ = wr; have n0_ := Aside0.mk (Eq.subst (motive := fun w_ => Kd.V _ _ w_ _ _ _ _) hq_ (Kd.V_drewN HO_0.out _)); have n1_ := Aside0.mk (Kd.R_at hq_ HO_7.out); have n2_ := Aside0.mk (Kd.R_at hq_ HO_9.out); have n3_ := Aside0.mk (Kd.R_at hq_ HO_15.out); have n4_ := Aside0.mk (below_at hq_ HB.out); clear hq_ HO_0 HO_7 HO_9 HO_15 HB; have HO_0 := n0_; have HO_7 := n1_; have HO_9 := n2_; have HO_15 := n3_; have HB := n4_; clear n0_ n1_ n2_ n3_ n4_; (try (obtain ⟨hy57_, hz57_⟩ := Kd.R_celln 0 HO_15.out ((ji51) : Int) (of_decide_eq_true (by first | (with_reducible assumption) | assumption)) (of_decide_eq_true (by first | (with_reducible assumption) | assumption)))); (try (have HP57 := Kd.R_putg HO_15.out ((ji51) : Int) (wrap64 ((rd x15_3 (ji51)) + t260)))))); refine store_event (t := 3) (p := 121) (v := ?vo_w58) (w1 := (wr.setCell ⟨go54, ((ji51) : Int).toNat, none⟩ (.int .i64 (wrap64 ((rd x15_3 (ji51)) + t260))))) ?hg ?ho ?hn ?hr ?_; (case ho => rfl); (case hg => rfl); (case hn => rfl); (case hr => first | (go_simp; done) | (go_simp; rfl)); intro w58 hw; have hg : wr.grownBy w58 (some go54) := (by rw [hw]; exact HP57.2); have hp_ : Kd.R (Kd.int .i64) 3 w58 w.heap.size (fun k_ => (w.heap.size ≤ k_) ∧ some k_ ≠ (.slice (some ad257) t242.length co55 : Value).ownBlock ∧ some k_ ≠ (v248 : Value).ownBlock) (.slice (some ⟨go54, 0, none⟩) x15_3.length co56) y263 := (by rw [hw, Ny263.out]; exact HP57.1); clear HP57; have n0_ := Aside0.mk (Kd.V_afterv (v := (.slice (some ⟨go54, 0, none⟩) x15_3.length co56)) (v1 := (.slice (some ⟨go54, 0, none⟩) x15_3.length co56)) (ok := (fun k_ => (P0_ k_ ∨ w.heap.size ≤ k_) ∧ some k_ ≠ (.slice (some ad257) t242.length co55 : Value).ownBlock ∧ some k_ ≠ (v248 : Value).ownBlock)) (by (with_reducible repeat (first | apply Kd.V_alloc | apply Kd.V_drewN | apply Kd.V_drew)); exact Kd.V_mono HO_0.out (fun _ hk => ⟨⟨hk.1, ⟨hk.2.1, hk.2.2.1⟩⟩, hk.2.2.2⟩)) hg (.inl rfl)); have n1_ := Aside0.mk (Kd.R_after (v := (.slice (some ⟨go54, 0, none⟩) x15_3.length co56)) (v1 := (.slice (some ⟨go54, 0, none⟩) x15_3.length co56)) (ok := (fun k_ => (w.heap.size ≤ k_) ∧ some k_ ≠ (v248 : Value).ownBlock)) (by (with_reducible repeat (first | apply Kd.R_alloc | apply Kd.R_drewN | apply Kd.R_drew)); exact Kd.R_mono HO_7.out (fun _ hk => ⟨⟨hk.1, hk.2.1⟩, hk.2.2⟩)) hg (.inl rfl)); have n2_ := Aside0.mk (Kd.R_after (v := (.slice (some ⟨go54, 0, none⟩) x15_3.length co56)) (v1 := (.slice (some ⟨go54, 0, none⟩) x15_3.length co56)) (ok := (fun k_ => (w.heap.size ≤ k_) ∧ some k_ ≠ (.slice (some ad257) t242.length co55 : Value).ownBlock)) (by (with_reducible repeat (first | apply Kd.R_alloc | apply Kd.R_drewN | apply Kd.R_drew)); exact Kd.R_mono HO_9.out (fun _ hk => ⟨⟨hk.1, hk.2.1⟩, hk.2.2⟩)) hg (.inl rfl)); have n3_ := Aside0.mk (hp_); have n4_ := Aside0.mk ((by rw [hw]; exact below_set (HB.out) GB54.out : Below w.heap.size w w58)); clear HO_0; clear HO_7; clear HO_9; clear HO_15; clear HB; have HO_0 := n0_; have HO_7 := n1_; have HO_9 := n2_; have HO_15 := n3_; have HB := n4_; clear n0_ n1_ n2_ n3_ n4_; clear hg hw hp_))
                                        first | (with_reducible show Handed _ _ _ _) | (repeat (go_quiet (first | (go_at_call 38; (with_reducible refine (galoislaw22_gcd.calls k3 (rd t242 x16_3) (wrap64 (a1)) t260 _ A49.out).mono ?_); rintro e w' ⟨rfl, ⟨nd, rfl⟩⟩; (try first | exact ⟨rfl, _, World.drewN_drewN _ _ _⟩ | exact ⟨rfl, _, Eq.trans (World.drewN_drewN _ _ _) (congrArg (World.drewN _) (Nat.add_assoc _ _ _))⟩); have p261 : 0 ≤ (x16_3 : Int) := of_decide_eq_true (by first | (with_reducible assumption) | assumption); have q261 : x16_3 < (t242.length : Int) := of_decide_eq_true (by first | (with_reducible assumption) | assumption); obtain ⟨ad261, e261, hx261_0⟩ := Kd.at_int (Kd.R_reads' HO_7.out).2.2 x16_3 p261 q261; obtain rfl : ad257 = ad261 := (by injection e261); replace p261 := eq_true p261; replace q261 := eq_true q261; obtain ⟨Ao56, co56, eo56⟩ := Kd.R_slice HO_15.out; subst eo56; have p262 : 0 ≤ ((ji51) : Int) := of_decide_eq_true (by first | (with_reducible assumption) | assumption); have q262 : (ji51) < (x15_3.length : Int) := of_decide_eq_true (by first | (with_reducible assumption) | assumption); obtain ⟨ad262, e262, hx262_0⟩ := Kd.at_int (Kd.R_reads' HO_15.out).2.2 (ji51) p262 q262; cases e262; replace p262 := eq_true p262; replace q262 := eq_true q262; have p54 : 0 ≤ ((ji51) : Int) := of_decide_eq_true (by first | (with_reducible assumption) | assumption); have q54 : ((ji51) : Int) < ((x15_3.length : Int) : Int) := of_decide_eq_true (by first | (with_reducible assumption) | assumption); obtain ⟨go54, co54, eo54, gb54, gl54, cl54, HG54⟩ := Kd.R_form HO_15.out (by omega); (first | cases eo54 | (injection eo54 with ea_ en_ ec_; (first | subst ea_ | (injection ea_ with ea_; subst ea_)); subst ec_; clear en_)); have GB54 := Aside0.mk gb54; have GG54 := Aside0.mk HG54; clear gb54 gl54 HG54; (first | simp only [add_plain] at hx262_0 | skip); obtain ⟨hx54_0, hf54_0⟩ := Kd.R_celln 0 HO_15.out ((ji51) : Int) p54 q54; replace p54 := eq_true p54; replace q54 := eq_true q54; obtain ⟨hy57_, hz57_⟩ := Kd.R_celln 0 HO_15.out ((ji51) : Int) (of_decide_eq_true (by first | (with_reducible assumption) | assumption)) (of_decide_eq_true (by first | (with_reducible assumption) | assumption)); have HP57 := Kd.R_putg HO_15.out ((ji51) : Int) (wrap64 ((rd x15_3 (ji51)) + t260))) | ((with_reducible refine gate_store (t := 3) (p := 121) rfl ?_); (try (rw [drewN_self wr]; generalize hq_ : World.drewN wr _ = wr; have n0_ := Aside0.mk (Eq.subst (motive := fun w_ => Kd.V _ _ w_ _ _ _ _) hq_ (Kd.V_drewN HO_0.out _)); have n1_ := Aside0.mk (Kd.R_at hq_ HO_7.out); have n2_ := Aside0.mk (Kd.R_at hq_ HO_9.out); have n3_ := Aside0.mk (Kd.R_at hq_ HO_15.out); have n4_ := Aside0.mk (below_at hq_ HB.out); clear hq_ HO_0 HO_7 HO_9 HO_15 HB; have HO_0 := n0_; have HO_7 := n1_; have HO_9 := n2_; have HO_15 := n3_; have HB := n4_; clear n0_ n1_ n2_ n3_ n4_; (try (obtain ⟨hy57_, hz57_⟩ := Kd.R_celln 0 HO_15.out ((ji51) : Int) (of_decide_eq_true (by first | (with_reducible assumption) | assumption)) (of_decide_eq_true (by first | (with_reducible assumption) | assumption)))); (try (have HP57 := Kd.R_putg HO_15.out ((ji51) : Int) (wrap64 ((rd x15_3 (ji51)) + t260)))))); refine store_event (t := 3) (p := 121) (v := ?vo_w58) (w1 := (wr.setCell ⟨go54, ((ji51) : Int).toNat, none⟩ (.int .i64 (wrap64 ((rd x15_3 (ji51)) + t260))))) ?hg ?ho ?hn ?hr ?_; (case ho => rfl); (case hg => rfl); (case hn => rfl); (case hr => first | (go_simp; done) | (go_simp; rfl)); intro w58 hw; have hg : wr.grownBy w58 (some go54) := (by rw [hw]; exact HP57.2); have hp_ : Kd.R (Kd.int .i64) 3 w58 w.heap.size (fun k_ => (w.heap.size ≤ k_) ∧ some k_ ≠ (.slice (some ad257) t242.length co55 : Value).ownBlock ∧ some k_ ≠ (v248 : Value).ownBlock) (.slice (some ⟨go54, 0, none⟩) x15_3.length co56) y263 := (by rw [hw, Ny263.out]; exact HP57.1); clear HP57; have n0_ := Aside0.mk (Kd.V_afterv (v := (.slice (some ⟨go54, 0, none⟩) x15_3.length co56)) (v1 := (.slice (some ⟨go54, 0, none⟩) x15_3.length co56)) (ok := (fun k_ => (P0_ k_ ∨ w.heap.size ≤ k_) ∧ some k_ ≠ (.slice (some ad257) t242.length co55 : Value).ownBlock ∧ some k_ ≠ (v248 : Value).ownBlock)) (by (with_reducible repeat (first | apply Kd.V_alloc | apply Kd.V_drewN | apply Kd.V_drew)); exact Kd.V_mono HO_0.out (fun _ hk => ⟨⟨hk.1, ⟨hk.2.1, hk.2.2.1⟩⟩, hk.2.2.2⟩)) hg (.inl rfl)); have n1_ := Aside0.mk (Kd.R_after (v := (.slice (some ⟨go54, 0, none⟩) x15_3.length co56)) (v1 := (.slice (some ⟨go54, 0, none⟩) x15_3.length co56)) (ok := (fun k_ => (w.heap.size ≤ k_) ∧ some k_ ≠ (v248 : Value).ownBlock)) (by (with_reducible repeat (first | apply Kd.R_alloc | apply Kd.R_drewN | apply Kd.R_drew)); exact Kd.R_mono HO_7.out (fun _ hk => ⟨⟨hk.1, hk.2.1⟩, hk.2.2⟩)) hg (.inl rfl)); have n2_ := Aside0.mk (Kd.R_after (v := (.slice (some ⟨go54, 0, none⟩) x15_3.length co56)) (v1 := (.slice (some ⟨go54, 0, none⟩) x15_3.length co56)) (ok := (fun k_ => (w.heap.size ≤ k_) ∧ some k_ ≠ (.slice (some ad257) t242.length co55 : Value).ownBlock)) (by (with_reducible repeat (first | apply Kd.R_alloc | apply Kd.R_drewN | apply Kd.R_drew)); exact Kd.R_mono HO_9.out (fun _ hk => ⟨⟨hk.1, hk.2.1⟩, hk.2.2⟩)) hg (.inl rfl)); have n3_ := Aside0.mk (hp_); have n4_ := Aside0.mk ((by rw [hw]; exact below_set (HB.out) GB54.out : Below w.heap.size w w58)); clear HO_0; clear HO_7; clear HO_9; clear HO_15; clear HB; have HO_0 := n0_; have HO_7 := n1_; have HO_9 := n2_; have HO_15 := n3_; have HB := n4_; clear n0_ n1_ n2_ n3_ n4_; clear hg hw hp_)); try go_wp2_with (first | (go_at_call 38; (with_reducible refine (galoislaw22_gcd.calls k3 (rd t242 x16_3) (wrap64 (a1)) t260 _ A49.out).mono ?_); rintro e w' ⟨rfl, ⟨nd, rfl⟩⟩; (try first | exact ⟨rfl, _, World.drewN_drewN _ _ _⟩ | exact ⟨rfl, _, Eq.trans (World.drewN_drewN _ _ _) (congrArg (World.drewN _) (Nat.add_assoc _ _ _))⟩); have p261 : 0 ≤ (x16_3 : Int) := of_decide_eq_true (by first | (with_reducible assumption) | assumption); have q261 : x16_3 < (t242.length : Int) := of_decide_eq_true (by first | (with_reducible assumption) | assumption); obtain ⟨ad261, e261, hx261_0⟩ := Kd.at_int (Kd.R_reads' HO_7.out).2.2 x16_3 p261 q261; obtain rfl : ad257 = ad261 := (by injection e261); replace p261 := eq_true p261; replace q261 := eq_true q261; obtain ⟨Ao56, co56, eo56⟩ := Kd.R_slice HO_15.out; subst eo56; have p262 : 0 ≤ ((ji51) : Int) := of_decide_eq_true (by first | (with_reducible assumption) | assumption); have q262 : (ji51) < (x15_3.length : Int) := of_decide_eq_true (by first | (with_reducible assumption) | assumption); obtain ⟨ad262, e262, hx262_0⟩ := Kd.at_int (Kd.R_reads' HO_15.out).2.2 (ji51) p262 q262; cases e262; replace p262 := eq_true p262; replace q262 := eq_true q262; have p54 : 0 ≤ ((ji51) : Int) := of_decide_eq_true (by first | (with_reducible assumption) | assumption); have q54 : ((ji51) : Int) < ((x15_3.length : Int) : Int) := of_decide_eq_true (by first | (with_reducible assumption) | assumption); obtain ⟨go54, co54, eo54, gb54, gl54, cl54, HG54⟩ := Kd.R_form HO_15.out (by omega); (first | cases eo54 | (injection eo54 with ea_ en_ ec_; (first | subst ea_ | (injection ea_ with ea_; subst ea_)); subst ec_; clear en_)); have GB54 := Aside0.mk gb54; have GG54 := Aside0.mk HG54; clear gb54 gl54 HG54; (first | simp only [add_plain] at hx262_0 | skip); obtain ⟨hx54_0, hf54_0⟩ := Kd.R_celln 0 HO_15.out ((ji51) : Int) p54 q54; replace p54 := eq_true p54; replace q54 := eq_true q54; obtain ⟨hy57_, hz57_⟩ := Kd.R_celln 0 HO_15.out ((ji51) : Int) (of_decide_eq_true (by first | (with_reducible assumption) | assumption)) (of_decide_eq_true (by first | (with_reducible assumption) | assumption)); have HP57 := Kd.R_putg HO_15.out ((ji51) : Int) (wrap64 ((rd x15_3 (ji51)) + t260))) | ((with_reducible refine gate_store (t := 3) (p := 121) rfl ?_); (try (rw [drewN_self wr]; generalize hq_ : World.drewN wr _ = wr; have n0_ := Aside0.mk (Eq.subst (motive := fun w_ => Kd.V _ _ w_ _ _ _ _) hq_ (Kd.V_drewN HO_0.out _)); have n1_ := Aside0.mk (Kd.R_at hq_ HO_7.out); have n2_ := Aside0.mk (Kd.R_at hq_ HO_9.out); have n3_ := Aside0.mk (Kd.R_at hq_ HO_15.out); have n4_ := Aside0.mk (below_at hq_ HB.out); clear hq_ HO_0 HO_7 HO_9 HO_15 HB; have HO_0 := n0_; have HO_7 := n1_; have HO_9 := n2_; have HO_15 := n3_; have HB := n4_; clear n0_ n1_ n2_ n3_ n4_; (try (obtain ⟨hy57_, hz57_⟩ := Kd.R_celln 0 HO_15.out ((ji51) : Int) (of_decide_eq_true (by first | (with_reducible assumption) | assumption)) (of_decide_eq_true (by first | (with_reducible assumption) | assumption)))); (try (have HP57 := Kd.R_putg HO_15.out ((ji51) : Int) (wrap64 ((rd x15_3 (ji51)) + t260)))))); refine store_event (t := 3) (p := 121) (v := ?vo_w58) (w1 := (wr.setCell ⟨go54, ((ji51) : Int).toNat, none⟩ (.int .i64 (wrap64 ((rd x15_3 (ji51)) + t260))))) ?hg ?ho ?hn ?hr ?_; (case ho => rfl); (case hg => rfl); (case hn => rfl); (case hr => first | (go_simp; done) | (go_simp; rfl)); intro w58 hw; have hg : wr.grownBy w58 (some go54) := (by rw [hw]; exact HP57.2); have hp_ : Kd.R (Kd.int .i64) 3 w58 w.heap.size (fun k_ => (w.heap.size ≤ k_) ∧ some k_ ≠ (.slice (some ad257) t242.length co55 : Value).ownBlock ∧ some k_ ≠ (v248 : Value).ownBlock) (.slice (some ⟨go54, 0, none⟩) x15_3.length co56) y263 := (by rw [hw, Ny263.out]; exact HP57.1); clear HP57; have n0_ := Aside0.mk (Kd.V_afterv (v := (.slice (some ⟨go54, 0, none⟩) x15_3.length co56)) (v1 := (.slice (some ⟨go54, 0, none⟩) x15_3.length co56)) (ok := (fun k_ => (P0_ k_ ∨ w.heap.size ≤ k_) ∧ some k_ ≠ (.slice (some ad257) t242.length co55 : Value).ownBlock ∧ some k_ ≠ (v248 : Value).ownBlock)) (by (with_reducible repeat (first | apply Kd.V_alloc | apply Kd.V_drewN | apply Kd.V_drew)); exact Kd.V_mono HO_0.out (fun _ hk => ⟨⟨hk.1, ⟨hk.2.1, hk.2.2.1⟩⟩, hk.2.2.2⟩)) hg (.inl rfl)); have n1_ := Aside0.mk (Kd.R_after (v := (.slice (some ⟨go54, 0, none⟩) x15_3.length co56)) (v1 := (.slice (some ⟨go54, 0, none⟩) x15_3.length co56)) (ok := (fun k_ => (w.heap.size ≤ k_) ∧ some k_ ≠ (v248 : Value).ownBlock)) (by (with_reducible repeat (first | apply Kd.R_alloc | apply Kd.R_drewN | apply Kd.R_drew)); exact Kd.R_mono HO_7.out (fun _ hk => ⟨⟨hk.1, hk.2.1⟩, hk.2.2⟩)) hg (.inl rfl)); have n2_ := Aside0.mk (Kd.R_after (v := (.slice (some ⟨go54, 0, none⟩) x15_3.length co56)) (v1 := (.slice (some ⟨go54, 0, none⟩) x15_3.length co56)) (ok := (fun k_ => (w.heap.size ≤ k_) ∧ some k_ ≠ (.slice (some ad257) t242.length co55 : Value).ownBlock)) (by (with_reducible repeat (first | apply Kd.R_alloc | apply Kd.R_drewN | apply Kd.R_drew)); exact Kd.R_mono HO_9.out (fun _ hk => ⟨⟨hk.1, hk.2.1⟩, hk.2.2⟩)) hg (.inl rfl)); have n3_ := Aside0.mk (hp_); have n4_ := Aside0.mk ((by rw [hw]; exact below_set (HB.out) GB54.out : Below w.heap.size w w58)); clear HO_0; clear HO_7; clear HO_9; clear HO_15; clear HB; have HO_0 := n0_; have HO_7 := n1_; have HO_9 := n2_; have HO_15 := n3_; have HB := n4_; clear n0_ n1_ n2_ n3_ n4_; clear hg hw hp_))))
                                        go_roundg k3
                                        case measure => have := HJ2.out; have := HJ25.out; have := HK3.out; ((try clear hji51w); (try clear hji51); omega)
                                        case rel => exact ⟨(y263), (wrap64 (x16_3 + 1)), (by first | rfl | (simp; done) | (simp [*]; done)), H', ⟨by have := HJ2.out; have := HJ25.out; have := HK3.out; ((try clear hji51w); (try clear hji51); omega)⟩, ⟨by (with_reducible repeat (first | apply Kd.V_alloc | apply Kd.V_drewN | apply Kd.V_drew)); exact Kd.V_mono HO_0.out (fun _ hk => ⟨hk.1.1, ⟨hk.1.2.1, ⟨hk.1.2.2, hk.2⟩⟩⟩)⟩, ⟨by (with_reducible repeat (first | apply Kd.R_alloc | apply Kd.R_drewN | apply Kd.R_drew)); exact Kd.R_mono HO_7.out (fun _ hk => ⟨hk.1.1, ⟨hk.1.2, hk.2⟩⟩)⟩, ⟨by (with_reducible repeat (first | apply Kd.R_alloc | apply Kd.R_drewN | apply Kd.R_drew)); exact Kd.R_mono HO_9.out (fun _ hk => ⟨hk.1.1, ⟨hk.1.2, hk.2⟩⟩)⟩, ⟨by (with_reducible repeat (first | apply Kd.R_alloc | apply Kd.R_drewN | apply Kd.R_drew)); exact HO_15.out⟩, ⟨by repeat (first | (with_reducible first | exact HB.out | apply below_alloc | apply pw_below_drewN | apply below_drew1) | exact HB.out)⟩⟩
                                    · rw [if_neg c53] at H
                                      exact absurd H (by simp)
                                  · rw [if_neg c52] at H
                                    exact absurd H (by simp)
                          · rw [if_neg c44] at H
                            exact absurd H (by simp)
                        · rw [if_neg c43] at H
                          have c43b0 : decide (x16_3 < (t242.length : Int)) = false := decide_eq_false c43
                          clear c43
                          have H' := Aside0.mk H
                          clear H
                          obtain ⟨Ao59, co59, eo59⟩ := Kd.R_slice HO_7.out
                          subst eo59
                          as_aux_lemma =>
                            go_wp2
                            repeat (go_quiet (fail); try go_wp2)
                            go_loopg [18] k3 (fun kq v18 w' => ∃ (x15_4 : List Int) (x18_4 : Int), v18 = .int .i64 x18_4 ∧ Aside0 (galoislaw22_PermSplits.l1 kq l0 a1 t246 t250 t252 x15_4 x18_4 = some r) ∧ Aside0 (kq ≤ k3) ∧ Aside0 (Kd.V (Kd.int .i64) 3 w' w.heap.size (fun k_ => (P0_ k_ ∨ w.heap.size ≤ k_) ∧ some k_ ≠ (v248 : Value).ownBlock ∧ some k_ ≠ (v255 : Value).ownBlock) (.slice A0 l0.length c0) l0) ∧ Aside0 (Kd.R (Kd.int .i64) 3 w' w.heap.size (fun k_ => (w.heap.size ≤ k_) ∧ some k_ ≠ (v255 : Value).ownBlock) v248 t246) ∧ Aside0 (Kd.R (Kd.int .i64) 3 w' w.heap.size (fun k_ => (w.heap.size ≤ k_) ∧ some k_ ≠ (v248 : Value).ownBlock) v255 x15_4) ∧ Aside0 (Below w.heap.size w w'))
                            case atStart => exact ⟨(x15_3), (0), (by first | rfl | (simp; done) | (simp [*]; done)), H', ⟨Nat.le_refl _⟩, ⟨by (with_reducible repeat (first | apply Kd.V_alloc | apply Kd.V_drewN | apply Kd.V_drew)); exact Kd.V_mono HO_0.out (fun _ hk => ⟨hk.1, ⟨hk.2.2.1, hk.2.2.2⟩⟩)⟩, ⟨by (with_reducible repeat (first | apply Kd.R_alloc | apply Kd.R_drewN | apply Kd.R_drew)); exact Kd.R_mono HO_9.out (fun _ hk => ⟨hk.1, hk.2.2⟩)⟩, ⟨by (with_reducible repeat (first | apply Kd.R_alloc | apply Kd.R_drewN | apply Kd.R_drew)); exact Kd.R_mono HO_15.out (fun _ hk => ⟨hk.1, hk.2.2⟩)⟩, ⟨by repeat (first | (with_reducible first | exact HB.out | apply below_alloc | apply pw_below_drewN | apply below_drew1) | exact HB.out)⟩⟩
                            case round =>
                              clear H'
                              try clear c1
                              try clear p2
                              try clear q2
                              try clear hx2
                              try clear c3
                              try clear c4
                              try clear c5
                              try clear p5
                              try clear q5
                              try clear hx5
                              try clear hf5
                              try clear p6
                              try clear c7
                              try clear c18
                              try clear p25
                              try clear q25
                              try clear hx25
                              try clear p26
                              try clear q26
                              try clear hx26
                              try clear c33
                              try clear c33b0
                              try clear c33b1
                              try clear c34
                              try clear c34b0
                              try clear c34b1
                              try clear c35
                              try clear c35b0
                              try clear c35b1
                              try clear c36
                              try clear c36b0
                              try clear c36b1
                              try clear c37
                              try clear c39
                              try clear c39b0
                              try clear c39b1
                              try clear c40
                              try clear c40b0
                              try clear c40b1
                              try clear c43
                              try clear c43b0
                              try clear c44
                              try clear c44b0
                              try clear c45
                              try clear c45b0
                              try clear c47
                              try clear c47b0
                              try clear c50
                              try clear c50b0
                              try clear c50b1
                              try clear c52
                              try clear c52b0
                              try clear c53
                              try clear c53b0
                              try clear p54
                              try clear q54
                              try clear hx54
                              try clear hf54
                              try clear hx257_0
                              try clear hx258_0
                              try clear hx259_0
                              try clear hx261_0
                              try clear hx262_0
                              try clear hx54_0
                              try clear p2
                              try clear p257
                              try clear p258
                              try clear p259
                              try clear p261
                              try clear p262
                              try clear p54
                              try clear p6
                              try clear q257
                              try clear q258
                              try clear q259
                              try clear q261
                              try clear q262
                              try clear q54
                              obtain ⟨x15_4, x18_4, rfl, HA, HK4, HO_0, HO_9, HO_15, HB⟩ := hrel
                              cases gk with
                              | zero => exact absurd HA.out (by simp [galoislaw22_PermSplits.l1])
                              | succ k4 =>
                                have H := HA.out
                                clear HA
                                simp only [galoislaw22_PermSplits.l1] at H
                                by_cases c60 : x18_4 < (t246.length : Int)
                                · rw [if_pos c60] at H
                                  have c60b0 : decide (x18_4 < (t246.length : Int)) = true := decide_eq_true c60
                                  clear c60
                                  by_cases c61 : 0 ≤ x18_4
                                  · rw [if_pos c61] at H
                                    have c61b0 : decide (0 ≤ x18_4) = true := decide_eq_true c61
                                    clear c61
                                    by_cases c62 : (rd t246 x18_4) < 1
                                    · rw [if_pos c62] at H
                                      have c62b0 : decide ((rd t246 x18_4) < 1) = true := decide_eq_true c62
                                      clear c62
                                      obtain rfl := Option.some.inj H
                                      obtain ⟨Ao63, co63, eo63⟩ := Kd.R_slice HO_9.out
                                      subst eo63
                                      have p264 : 0 ≤ (x18_4 : Int) := of_decide_eq_true (by first | (with_reducible assumption) | assumption)
                                      have q264 : x18_4 < (t246.length : Int) := of_decide_eq_true (by first | (with_reducible assumption) | assumption)
                                      obtain ⟨ad264, e264, hx264_0⟩ := Kd.at_int (Kd.R_reads' HO_9.out).2.2 x18_4 p264 q264
                                      cases e264
                                      replace p264 := eq_true p264
                                      replace q264 := eq_true q264
                                      as_aux_lemma =>
                                        go_wp2
                                        repeat (go_quiet (fail); try go_wp2)
                                        go_ret
                                        exact ⟨by first | rfl | (simp [errW_none, errW_some] <;> rfl) | (simp only [← hji38]; first | rfl | (simp [errW_none, errW_some] <;> rfl)) | (simp [*, errW_none, errW_some] <;> rfl), by repeat (first | (with_reducible first | exact HB.out | apply below_alloc | apply pw_below_drewN | apply below_drew1) | exact HB.out)⟩
                                    · rw [if_neg c62] at H
                                      have c62b0 : decide ((rd t246 x18_4) < 1) = false := decide_eq_false c62
                                      clear c62
                                      by_cases c64 : (rd t246 x18_4) > (l0.length : Int)
                                      · rw [if_pos c64] at H
                                        have c64b0 : decide ((l0.length : Int) < (rd t246 x18_4)) = true := decide_eq_true c64
                                        clear c64
                                        obtain rfl := Option.some.inj H
                                        obtain ⟨Ao65, co65, eo65⟩ := Kd.R_slice HO_9.out
                                        subst eo65
                                        have p264 : 0 ≤ (x18_4 : Int) := of_decide_eq_true (by first | (with_reducible assumption) | assumption)
                                        have q264 : x18_4 < (t246.length : Int) := of_decide_eq_true (by first | (with_reducible assumption) | assumption)
                                        obtain ⟨ad264, e264, hx264_0⟩ := Kd.at_int (Kd.R_reads' HO_9.out).2.2 x18_4 p264 q264
                                        cases e264
                                        replace p264 := eq_true p264
                                        replace q264 := eq_true q264
                                        have p265 : 0 ≤ (x18_4 : Int) := of_decide_eq_true (by first | (with_reducible assumption) | assumption)
                                        have q265 : x18_4 < (t246.length : Int) := of_decide_eq_true (by first | (with_reducible assumption) | assumption)
                                        obtain ⟨ad265, e265, hx265_0⟩ := Kd.at_int (Kd.R_reads' HO_9.out).2.2 x18_4 p265 q265
                                        obtain rfl : ad264 = ad265 := (by injection e265)
                                        replace p265 := eq_true p265
                                        replace q265 := eq_true q265
                                        as_aux_lemma =>
                                          go_wp2
                                          repeat (go_quiet (fail); try go_wp2)
                                          go_ret
                                          exact ⟨by first | rfl | (simp [errW_none, errW_some] <;> rfl) | (simp only [← hji38]; first | rfl | (simp [errW_none, errW_some] <;> rfl)) | (simp [*, errW_none, errW_some] <;> rfl), by repeat (first | (with_reducible first | exact HB.out | apply below_alloc | apply pw_below_drewN | apply below_drew1) | exact HB.out)⟩
                                      · rw [if_neg c64] at H
                                        have c64b0 : decide ((l0.length : Int) < (rd t246 x18_4)) = false := decide_eq_false c64
                                        clear c64
                                        by_cases c66 : x18_4 > 0
                                        · rw [if_pos c66] at H
                                          have c66b0 : decide (0 < x18_4) = true := decide_eq_true c66
                                          clear c66
                                          obtain ⟨ji67, hji67⟩ : ∃ j_ : Int, (wrap64 (x18_4 - 1)) = j_ := ⟨_, rfl⟩
                                          replace H : (if 0 ≤ (ji67) then (if (ji67) < (t246.length : Int) then (if (rd t246 x18_4) > (rd t246 (ji67)) then (some false) else (if 0 ≤ (rd t246 x18_4) then (if (rd t246 x18_4) < (x15_4.length : Int) then (galoislaw22_PermSplits.l1 k4 l0 a1 t246 t250 t252 (x15_4.set ((rd t246 x18_4) : Int).toNat (wrap64 ((rd x15_4 (rd t246 x18_4)) - 1))) (wrap64 (x18_4 + 1))) else (none)) else (none))) else (none)) else (none)) = some r := by first | (rw [hji67] at H; exact H) | (simp only [hji67] at H ⊢; exact H)
                                          have hji67w : (IntKind.i64.wrap (x18_4 - 1)) = ji67 := (i64_w _).trans hji67
                                          by_cases c68 : 0 ≤ (ji67)
                                          · rw [if_pos c68] at H
                                            have c68b0 : decide (0 ≤ (ji67)) = true := decide_eq_true c68
                                            clear c68
                                            by_cases c69 : (ji67) < (t246.length : Int)
                                            · rw [if_pos c69] at H
                                              have c69b0 : decide ((ji67) < (t246.length : Int)) = true := decide_eq_true c69
                                              clear c69
                                              by_cases c70 : (rd t246 x18_4) > (rd t246 (ji67))
                                              · rw [if_pos c70] at H
                                                have c70b0 : decide ((rd t246 (ji67)) < (rd t246 x18_4)) = true := decide_eq_true c70
                                                clear c70
                                                obtain rfl := Option.some.inj H
                                                obtain ⟨Ao71, co71, eo71⟩ := Kd.R_slice HO_9.out
                                                subst eo71
                                                have p264 : 0 ≤ (x18_4 : Int) := of_decide_eq_true (by first | (with_reducible assumption) | assumption)
                                                have q264 : x18_4 < (t246.length : Int) := of_decide_eq_true (by first | (with_reducible assumption) | assumption)
                                                obtain ⟨ad264, e264, hx264_0⟩ := Kd.at_int (Kd.R_reads' HO_9.out).2.2 x18_4 p264 q264
                                                cases e264
                                                replace p264 := eq_true p264
                                                replace q264 := eq_true q264
                                                have p265 : 0 ≤ (x18_4 : Int) := of_decide_eq_true (by first | (with_reducible assumption) | assumption)
                                                have q265 : x18_4 < (t246.length : Int) := of_decide_eq_true (by first | (with_reducible assumption) | assumption)
                                                obtain ⟨ad265, e265, hx265_0⟩ := Kd.at_int (Kd.R_reads' HO_9.out).2.2 x18_4 p265 q265
                                                obtain rfl : ad264 = ad265 := (by injection e265)
                                                replace p265 := eq_true p265
                                                replace q265 := eq_true q265
                                                have p266 : 0 ≤ (x18_4 : Int) := of_decide_eq_true (by first | (with_reducible assumption) | assumption)
                                                have q266 : x18_4 < (t246.length : Int) := of_decide_eq_true (by first | (with_reducible assumption) | assumption)
                                                obtain ⟨ad266, e266, hx266_0⟩ := Kd.at_int (Kd.R_reads' HO_9.out).2.2 x18_4 p266 q266
                                                obtain rfl : ad264 = ad266 := (by injection e266)
                                                replace p266 := eq_true p266
                                                replace q266 := eq_true q266
                                                have p267 : 0 ≤ ((ji67) : Int) := of_decide_eq_true (by first | (with_reducible assumption) | assumption)
                                                have q267 : (ji67) < (t246.length : Int) := of_decide_eq_true (by first | (with_reducible assumption) | assumption)
                                                obtain ⟨ad267, e267, hx267_0⟩ := Kd.at_int (Kd.R_reads' HO_9.out).2.2 (ji67) p267 q267
                                                obtain rfl : ad264 = ad267 := (by injection e267)
                                                replace p267 := eq_true p267
                                                replace q267 := eq_true q267
                                                as_aux_lemma =>
                                                  go_wp2
                                                  repeat (go_quiet (fail); try go_wp2)
                                                  go_ret
                                                  exact ⟨by first | rfl | (simp [errW_none, errW_some] <;> rfl) | (simp only [← hji38, ← hji67]; first | rfl | (simp [errW_none, errW_some] <;> rfl)) | (simp [*, errW_none, errW_some] <;> rfl), by repeat (first | (with_reducible first | exact HB.out | apply below_alloc | apply pw_below_drewN | apply below_drew1) | exact HB.out)⟩
                                              · rw [if_neg c70] at H
                                                have c70b0 : decide ((rd t246 (ji67)) < (rd t246 x18_4)) = false := decide_eq_false c70
                                                clear c70
                                                by_cases c72 : 0 ≤ (rd t246 x18_4)
                                                · rw [if_pos c72] at H
                                                  have c72b0 : decide (0 ≤ (rd t246 x18_4)) = true := decide_eq_true c72
                                                  clear c72
                                                  by_cases c73 : (rd t246 x18_4) < (x15_4.length : Int)
                                                  · rw [if_pos c73] at H
                                                    have c73b0 : decide ((rd t246 x18_4) < (x15_4.length : Int)) = true := decide_eq_true c73
                                                    clear c73
                                                    obtain ⟨y270, hy270⟩ : ∃ y_ : List Int, y_ = (x15_4.set ((rd t246 x18_4) : Int).toNat (wrap64 ((rd x15_4 (rd t246 x18_4)) - 1))) := ⟨_, rfl⟩
                                                    replace H : (galoislaw22_PermSplits.l1 k4 l0 a1 t246 t250 t252 y270 (wrap64 (x18_4 + 1))) = some r := by first | (rw [hy270]; with_reducible exact H) | (have H2_ := (Option.bind_some _ _).symm.trans H; rw [hy270]; with_reducible exact H2_) | (have H2_ := (Option.bind_some _ _).symm.trans H; with_reducible exact H2_) | with_reducible exact H | (rw [hy270]; exact H) | exact H
                                                    have Ny270 := Aside0.mk hy270
                                                    clear hy270
                                                    have H' := Aside0.mk H
                                                    clear H
                                                    obtain ⟨Ao75, co75, eo75⟩ := Kd.R_slice HO_9.out
                                                    subst eo75
                                                    have p264 : 0 ≤ (x18_4 : Int) := of_decide_eq_true (by first | (with_reducible assumption) | assumption)
                                                    have q264 : x18_4 < (t246.length : Int) := of_decide_eq_true (by first | (with_reducible assumption) | assumption)
                                                    obtain ⟨ad264, e264, hx264_0⟩ := Kd.at_int (Kd.R_reads' HO_9.out).2.2 x18_4 p264 q264
                                                    cases e264
                                                    replace p264 := eq_true p264
                                                    replace q264 := eq_true q264
                                                    have p265 : 0 ≤ (x18_4 : Int) := of_decide_eq_true (by first | (with_reducible assumption) | assumption)
                                                    have q265 : x18_4 < (t246.length : Int) := of_decide_eq_true (by first | (with_reducible assumption) | assumption)
                                                    obtain ⟨ad265, e265, hx265_0⟩ := Kd.at_int (Kd.R_reads' HO_9.out).2.2 x18_4 p265 q265
                                                    obtain rfl : ad264 = ad265 := (by injection e265)
                                                    replace p265 := eq_true p265
                                                    replace q265 := eq_true q265
                                                    have p266 : 0 ≤ (x18_4 : Int) := of_decide_eq_true (by first | (with_reducible assumption) | assumption)
                                                    have q266 : x18_4 < (t246.length : Int) := of_decide_eq_true (by first | (with_reducible assumption) | assumption)
                                                    obtain ⟨ad266, e266, hx266_0⟩ := Kd.at_int (Kd.R_reads' HO_9.out).2.2 x18_4 p266 q266
                                                    obtain rfl : ad264 = ad266 := (by injection e266)
                                                    replace p266 := eq_true p266
                                                    replace q266 := eq_true q266
                                                    have p267 : 0 ≤ ((ji67) : Int) := of_decide_eq_true (by first | (with_reducible assumption) | assumption)
                                                    have q267 : (ji67) < (t246.length : Int) := of_decide_eq_true (by first | (with_reducible assumption) | assumption)
                                                    obtain ⟨ad267, e267, hx267_0⟩ := Kd.at_int (Kd.R_reads' HO_9.out).2.2 (ji67) p267 q267
                                                    obtain rfl : ad264 = ad267 := (by injection e267)
                                                    replace p267 := eq_true p267
                                                    replace q267 := eq_true q267
                                                    have p268 : 0 ≤ (x18_4 : Int) := of_decide_eq_true (by first | (with_reducible assumption) | assumption)
                                                    have q268 : x18_4 < (t246.length : Int) := of_decide_eq_true (by first | (with_reducible assumption) | assumption)
                                                    obtain ⟨ad268, e268, hx268_0⟩ := Kd.at_int (Kd.R_reads' HO_9.out).2.2 x18_4 p268 q268
                                                    obtain rfl : ad264 = ad268 := (by injection e268)
                                                    replace p268 := eq_true p268
                                                    replace q268 := eq_true q268
                                                    obtain ⟨Ao76, co76, eo76⟩ := Kd.R_slice HO_15.out
                                                    subst eo76
                                                    have p269 : 0 ≤ ((rd t246 x18_4) : Int) := of_decide_eq_true (by first | (with_reducible assumption) | assumption)
                                                    have q269 : (rd t246 x18_4) < (x15_4.length : Int) := of_decide_eq_true (by first | (with_reducible assumption) | assumption)
                                                    obtain ⟨ad269, e269, hx269_0⟩ := Kd.at_int (Kd.R_reads' HO_15.out).2.2 (rd t246 x18_4) p269 q269
                                                    cases e269
                                                    replace p269 := eq_true p269
                                                    replace q269 := eq_true q269
                                                    have p74 : 0 ≤ ((rd t246 x18_4) : Int) := of_decide_eq_true (by first | (with_reducible assumption) | assumption)
                                                    have q74 : ((rd t246 x18_4) : Int) < ((x15_4.length : Int) : Int) := of_decide_eq_true (by first | (with_reducible assumption) | assumption)
                                                    obtain ⟨go74, co74, eo74, gb74, gl74, cl74, HG74⟩ := Kd.R_form HO_15.out (by omega)
                                                    (first | cases eo74 | (injection eo74 with ea_ en_ ec_; (first | subst ea_ | (injection ea_ with ea_; subst ea_)); subst ec_; clear en_))
                                                    have GB74 := Aside0.mk gb74
                                                    have GG74 := Aside0.mk HG74
                                                    clear gb74 gl74 HG74
                                                    (first | simp only [add_plain] at hx269_0 | skip)
                                                    obtain ⟨hx74_0, hf74_0⟩ := Kd.R_celln 0 HO_15.out ((rd t246 x18_4) : Int) p74 q74
                                                    replace p74 := eq_true p74
                                                    replace q74 := eq_true q74
                                                    have HP77 := Kd.R_putg HO_15.out ((rd t246 x18_4) : Int) (wrap64 ((rd x15_4 (rd t246 x18_4)) - 1))
                                                    as_aux_lemma =>
                                                      go_wp2_with (first | ((with_reducible refine gate_store (t := 3) (p := 166) rfl ?_); (try (rw [drewN_self wr]; generalize hq_ : World.drewN wr _ = wr; have n0_ := Aside0.mk (Eq.subst (motive := fun w_ => Kd.V _ _ w_ _ _ _ _) hq_ (Kd.V_drewN HO_0.out _)); have n1_ := Aside0.mk (Kd.R_at hq_ HO_9.out); have n2_ := Aside0.mk (Kd.R_at hq_ HO_15.out); have n3_ := Aside0.mk (below_at hq_ HB.out); clear hq_ HO_0 HO_9 HO_15 HB; have HO_0 := n0_; have HO_9 := n1_; have HO_15 := n2_; have HB := n3_; clear n0_ n1_ n2_ n3_; (try (obtain ⟨hy77_, hz77_⟩ := Kd.R_celln 0 HO_15.out ((rd t246 x18_4) : Int) (of_decide_eq_true (by first | (with_reducible assumption) | assumption)) (of_decide_eq_true (by first | (with_reducible assumption) | assumption)))); (try (have HP77 := Kd.R_putg HO_15.out ((rd t246 x18_4) : Int) (wrap64 ((rd x15_4 (rd t246 x18_4)) - 1)))))); refine store_event (t := 3) (p := 166) (v := ?vo_w78) (w1 := (wr.setCell ⟨go74, ((rd t246 x18_4) : Int).toNat, none⟩ (.int .i64 (wrap64 ((rd x15_4 (rd t246 x18_4)) - 1))))) ?hg ?ho ?hn ?hr ?_; (case ho => rfl); (case hg => rfl); (case hn => rfl); (case hr => first | (go_simp; done) | (go_simp; rfl)); intro w78 hw; have hg : wr.grownBy w78 (some go74) := (by rw [hw]; exact HP77.2); have hp_ : Kd.R (Kd.int .i64) 3 w78 w.heap.size (fun k_ => (w.heap.size ≤ k_) ∧ some k_ ≠ (.slice (some ad264) t246.length co75 : Value).ownBlock) (.slice (some ⟨go74, 0, none⟩) x15_4.length co76) y270 := (by rw [hw, Ny270.out]; exact HP77.1); clear HP77; have n0_ := Aside0.mk (Kd.V_afterv (v := (.slice (some ⟨go74, 0, none⟩) x15_4.length co76)) (v1 := (.slice (some ⟨go74, 0, none⟩) x15_4.length co76)) (ok := (fun k_ => (P0_ k_ ∨ w.heap.size ≤ k_) ∧ some k_ ≠ (.slice (some ad264) t246.length co75 : Value).ownBlock)) (by (with_reducible repeat (first | apply Kd.V_alloc | apply Kd.V_drewN | apply Kd.V_drew)); exact Kd.V_mono HO_0.out (fun _ hk => ⟨⟨hk.1, hk.2.1⟩, hk.2.2⟩)) hg (.inl rfl)); have n1_ := Aside0.mk (Kd.R_after (v := (.slice (some ⟨go74, 0, none⟩) x15_4.length co76)) (v1 := (.slice (some ⟨go74, 0, none⟩) x15_4.length co76)) (ok := (fun k_ => (w.heap.size ≤ k_))) (by (with_reducible repeat (first | apply Kd.R_alloc | apply Kd.R_drewN | apply Kd.R_drew)); exact HO_9.out) hg (.inl rfl)); have n2_ := Aside0.mk (hp_); have n3_ := Aside0.mk ((by rw [hw]; exact below_set (HB.out) GB74.out : Below w.heap.size w w78)); clear HO_0; clear HO_9; clear HO_15; clear HB; have HO_0 := n0_; have HO_9 := n1_; have HO_15 := n2_; have HB := n3_; clear n0_ n1_ n2_ n3_; clear hg hw hp_))
                                                      first | (with_reducible show Handed _ _ _ _) | (repeat (go_quiet (first | ((with_reducible refine gate_store (t := 3) (p := 166) rfl ?_); (try (rw [drewN_self wr]; generalize hq_ : World.drewN wr _ = wr; have n0_ := Aside0.mk (Eq.subst (motive := fun w_ => Kd.V _ _ w_ _ _ _ _) hq_ (Kd.V_drewN HO_0.out _)); have n1_ := Aside0.mk (Kd.R_at hq_ HO_9.out); have n2_ := Aside0.mk (Kd.R_at hq_ HO_15.out); have n3_ := Aside0.mk (below_at hq_ HB.out); clear hq_ HO_0 HO_9 HO_15 HB; have HO_0 := n0_; have HO_9 := n1_; have HO_15 := n2_; have HB := n3_; clear n0_ n1_ n2_ n3_; (try (obtain ⟨hy77_, hz77_⟩ := Kd.R_celln 0 HO_15.out ((rd t246 x18_4) : Int) (of_decide_eq_true (by first | (with_reducible assumption) | assumption)) (of_decide_eq_true (by first | (with_reducible assumption) | assumption)))); (try (have HP77 := Kd.R_putg HO_15.out ((rd t246 x18_4) : Int) (wrap64 ((rd x15_4 (rd t246 x18_4)) - 1)))))); refine store_event (t := 3) (p := 166) (v := ?vo_w78) (w1 := (wr.setCell ⟨go74, ((rd t246 x18_4) : Int).toNat, none⟩ (.int .i64 (wrap64 ((rd x15_4 (rd t246 x18_4)) - 1))))) ?hg ?ho ?hn ?hr ?_; (case ho => rfl); (case hg => rfl); (case hn => rfl); (case hr => first | (go_simp; done) | (go_simp; rfl)); intro w78 hw; have hg : wr.grownBy w78 (some go74) := (by rw [hw]; exact HP77.2); have hp_ : Kd.R (Kd.int .i64) 3 w78 w.heap.size (fun k_ => (w.heap.size ≤ k_) ∧ some k_ ≠ (.slice (some ad264) t246.length co75 : Value).ownBlock) (.slice (some ⟨go74, 0, none⟩) x15_4.length co76) y270 := (by rw [hw, Ny270.out]; exact HP77.1); clear HP77; have n0_ := Aside0.mk (Kd.V_afterv (v := (.slice (some ⟨go74, 0, none⟩) x15_4.length co76)) (v1 := (.slice (some ⟨go74, 0, none⟩) x15_4.length co76)) (ok := (fun k_ => (P0_ k_ ∨ w.heap.size ≤ k_) ∧ some k_ ≠ (.slice (some ad264) t246.length co75 : Value).ownBlock)) (by (with_reducible repeat (first | apply Kd.V_alloc | apply Kd.V_drewN | apply Kd.V_drew)); exact Kd.V_mono HO_0.out (fun _ hk => ⟨⟨hk.1, hk.2.1⟩, hk.2.2⟩)) hg (.inl rfl)); have n1_ := Aside0.mk (Kd.R_after (v := (.slice (some ⟨go74, 0, none⟩) x15_4.length co76)) (v1 := (.slice (some ⟨go74, 0, none⟩) x15_4.length co76)) (ok := (fun k_ => (w.heap.size ≤ k_))) (by (with_reducible repeat (first | apply Kd.R_alloc | apply Kd.R_drewN | apply Kd.R_drew)); exact HO_9.out) hg (.inl rfl)); have n2_ := Aside0.mk (hp_); have n3_ := Aside0.mk ((by rw [hw]; exact below_set (HB.out) GB74.out : Below w.heap.size w w78)); clear HO_0; clear HO_9; clear HO_15; clear HB; have HO_0 := n0_; have HO_9 := n1_; have HO_15 := n2_; have HB := n3_; clear n0_ n1_ n2_ n3_; clear hg hw hp_)); try go_wp2_with (first | ((with_reducible refine gate_store (t := 3) (p := 166) rfl ?_); (try (rw [drewN_self wr]; generalize hq_ : World.drewN wr _ = wr; have n0_ := Aside0.mk (Eq.subst (motive := fun w_ => Kd.V _ _ w_ _ _ _ _) hq_ (Kd.V_drewN HO_0.out _)); have n1_ := Aside0.mk (Kd.R_at hq_ HO_9.out); have n2_ := Aside0.mk (Kd.R_at hq_ HO_15.out); have n3_ := Aside0.mk (below_at hq_ HB.out); clear hq_ HO_0 HO_9 HO_15 HB; have HO_0 := n0_; have HO_9 := n1_; have HO_15 := n2_; have HB := n3_; clear n0_ n1_ n2_ n3_; (try (obtain ⟨hy77_, hz77_⟩ := Kd.R_celln 0 HO_15.out ((rd t246 x18_4) : Int) (of_decide_eq_true (by first | (with_reducible assumption) | assumption)) (of_decide_eq_true (by first | (with_reducible assumption) | assumption)))); (try (have HP77 := Kd.R_putg HO_15.out ((rd t246 x18_4) : Int) (wrap64 ((rd x15_4 (rd t246 x18_4)) - 1)))))); refine store_event (t := 3) (p := 166) (v := ?vo_w78) (w1 := (wr.setCell ⟨go74, ((rd t246 x18_4) : Int).toNat, none⟩ (.int .i64 (wrap64 ((rd x15_4 (rd t246 x18_4)) - 1))))) ?hg ?ho ?hn ?hr ?_; (case ho => rfl); (case hg => rfl); (case hn => rfl); (case hr => first | (go_simp; done) | (go_simp; rfl)); intro w78 hw; have hg : wr.grownBy w78 (some go74) := (by rw [hw]; exact HP77.2); have hp_ : Kd.R (Kd.int .i64) 3 w78 w.heap.size (fun k_ => (w.heap.size ≤ k_) ∧ some k_ ≠ (.slice (some ad264) t246.length co75 : Value).ownBlock) (.slice (some ⟨go74, 0, none⟩) x15_4.length co76) y270 := (by rw [hw, Ny270.out]; exact HP77.1); clear HP77; have n0_ := Aside0.mk (Kd.V_afterv (v := (.slice (some ⟨go74, 0, none⟩) x15_4.length co76)) (v1 := (.slice (some ⟨go74, 0, none⟩) x15_4.length co76)) (ok := (fun k_ => (P0_ k_ ∨ w.heap.size ≤ k_) ∧ some k_ ≠ (.slice (some ad264) t246.length co75 : Value).ownBlock)) (by (with_reducible repeat (first | apply Kd.V_alloc | apply Kd.V_drewN | apply Kd.V_drew)); exact Kd.V_mono HO_0.out (fun _ hk => ⟨⟨hk.1, hk.2.1⟩, hk.2.2⟩)) hg (.inl rfl)); have n1_ := Aside0.mk (Kd.R_after (v := (.slice (some ⟨go74, 0, none⟩) x15_4.length co76)) (v1 := (.slice (some ⟨go74, 0, none⟩) x15_4.length co76)) (ok := (fun k_ => (w.heap.size ≤ k_))) (by (with_reducible repeat (first | apply Kd.R_alloc | apply Kd.R_drewN | apply Kd.R_drew)); exact HO_9.out) hg (.inl rfl)); have n2_ := Aside0.mk (hp_); have n3_ := Aside0.mk ((by rw [hw]; exact below_set (HB.out) GB74.out : Below w.heap.size w w78)); clear HO_0; clear HO_9; clear HO_15; clear HB; have HO_0 := n0_; have HO_9 := n1_; have HO_15 := n2_; have HB := n3_; clear n0_ n1_ n2_ n3_; clear hg hw hp_))))
                                                      go_roundg k4
                                                      case measure => have := HJ2.out; have := HJ25.out; have := HK3.out; have := HK4.out; ((try clear hji51w); (try clear hji51); omega)
                                                      case rel => exact ⟨(y270), (wrap64 (x18_4 + 1)), (by first | rfl | (simp; done) | (simp [*]; done)), H', ⟨by have := HJ2.out; have := HJ25.out; have := HK3.out; have := HK4.out; ((try clear hji51w); (try clear hji51); omega)⟩, ⟨by (with_reducible repeat (first | apply Kd.V_alloc | apply Kd.V_drewN | apply Kd.V_drew)); exact Kd.V_mono HO_0.out (fun _ hk => ⟨hk.1.1, ⟨hk.1.2, hk.2⟩⟩)⟩, ⟨by (with_reducible repeat (first | apply Kd.R_alloc | apply Kd.R_drewN | apply Kd.R_drew)); exact HO_9.out⟩, ⟨by (with_reducible repeat (first | apply Kd.R_alloc | apply Kd.R_drewN | apply Kd.R_drew)); exact HO_15.out⟩, ⟨by repeat (first | (with_reducible first | exact HB.out | apply below_alloc | apply pw_below_drewN | apply below_drew1) | exact HB.out)⟩⟩
                                                  · rw [if_neg c73] at H
                                                    exact absurd H (by simp)
                                                · rw [if_neg c72] at H
                                                  exact absurd H (by simp)
                                            · rw [if_neg c69] at H
                                              exact absurd H (by simp)
                                          · rw [if_neg c68] at H
                                            exact absurd H (by simp)
                                        · rw [if_neg c66] at H
                                          have c66b0 : decide (0 < x18_4) = false := decide_eq_false c66
                                          clear c66
                                          by_cases c79 : 0 ≤ (rd t246 x18_4)
                                          · rw [if_pos c79] at H
                                            have c79b0 : decide (0 ≤ (rd t246 x18_4)) = true := decide_eq_true c79
                                            clear c79
                                            by_cases c80 : (rd t246 x18_4) < (x15_4.length : Int)
                                            · rw [if_pos c80] at H
                                              have c80b0 : decide ((rd t246 x18_4) < (x15_4.length : Int)) = true := decide_eq_true c80
                                              clear c80
                                              obtain ⟨y273, hy273⟩ : ∃ y_ : List Int, y_ = (x15_4.set ((rd t246 x18_4) : Int).toNat (wrap64 ((rd x15_4 (rd t246 x18_4)) - 1))) := ⟨_, rfl⟩
                                              replace H : (galoislaw22_PermSplits.l1 k4 l0 a1 t246 t250 t252 y273 (wrap64 (x18_4 + 1))) = some r := by first | (rw [hy273]; with_reducible exact H) | (have H2_ := (Option.bind_some _ _).symm.trans H; rw [hy273]; with_reducible exact H2_) | (have H2_ := (Option.bind_some _ _).symm.trans H; with_reducible exact H2_) | with_reducible exact H | (rw [hy273]; exact H) | exact H
                                              have Ny273 := Aside0.mk hy273
                                              clear hy273
                                              have H' := Aside0.mk H
                                              clear H
                                              obtain ⟨Ao82, co82, eo82⟩ := Kd.R_slice HO_9.out
                                              subst eo82
                                              have p264 : 0 ≤ (x18_4 : Int) := of_decide_eq_true (by first | (with_reducible assumption) | assumption)
                                              have q264 : x18_4 < (t246.length : Int) := of_decide_eq_true (by first | (with_reducible assumption) | assumption)
                                              obtain ⟨ad264, e264, hx264_0⟩ := Kd.at_int (Kd.R_reads' HO_9.out).2.2 x18_4 p264 q264
                                              cases e264
                                              replace p264 := eq_true p264
                                              replace q264 := eq_true q264
                                              have p265 : 0 ≤ (x18_4 : Int) := of_decide_eq_true (by first | (with_reducible assumption) | assumption)
                                              have q265 : x18_4 < (t246.length : Int) := of_decide_eq_true (by first | (with_reducible assumption) | assumption)
                                              obtain ⟨ad265, e265, hx265_0⟩ := Kd.at_int (Kd.R_reads' HO_9.out).2.2 x18_4 p265 q265
                                              obtain rfl : ad264 = ad265 := (by injection e265)
                                              replace p265 := eq_true p265
                                              replace q265 := eq_true q265
                                              have p271 : 0 ≤ (x18_4 : Int) := of_decide_eq_true (by first | (with_reducible assumption) | assumption)
                                              have q271 : x18_4 < (t246.length : Int) := of_decide_eq_true (by first | (with_reducible assumption) | assumption)
                                              obtain ⟨ad271, e271, hx271_0⟩ := Kd.at_int (Kd.R_reads' HO_9.out).2.2 x18_4 p271 q271
                                              obtain rfl : ad264 = ad271 := (by injection e271)
                                              replace p271 := eq_true p271
                                              replace q271 := eq_true q271
                                              obtain ⟨Ao83, co83, eo83⟩ := Kd.R_slice HO_15.out
                                              subst eo83
                                              have p272 : 0 ≤ ((rd t246 x18_4) : Int) := of_decide_eq_true (by first | (with_reducible assumption) | assumption)
                                              have q272 : (rd t246 x18_4) < (x15_4.length : Int) := of_decide_eq_true (by first | (with_reducible assumption) | assumption)
                                              obtain ⟨ad272, e272, hx272_0⟩ := Kd.at_int (Kd.R_reads' HO_15.out).2.2 (rd t246 x18_4) p272 q272
                                              cases e272
                                              replace p272 := eq_true p272
                                              replace q272 := eq_true q272
                                              have p81 : 0 ≤ ((rd t246 x18_4) : Int) := of_decide_eq_true (by first | (with_reducible assumption) | assumption)
                                              have q81 : ((rd t246 x18_4) : Int) < ((x15_4.length : Int) : Int) := of_decide_eq_true (by first | (with_reducible assumption) | assumption)
                                              obtain ⟨go81, co81, eo81, gb81, gl81, cl81, HG81⟩ := Kd.R_form HO_15.out (by omega)
                                              (first | cases eo81 | (injection eo81 with ea_ en_ ec_; (first | subst ea_ | (injection ea_ with ea_; subst ea_)); subst ec_; clear en_))
                                              have GB81 := Aside0.mk gb81
                                              have GG81 := Aside0.mk HG81
                                              clear gb81 gl81 HG81
                                              (first | simp only [add_plain] at hx272_0 | skip)
                                              obtain ⟨hx81_0, hf81_0⟩ := Kd.R_celln 0 HO_15.out ((rd t246 x18_4) : Int) p81 q81
                                              replace p81 := eq_true p81
                                              replace q81 := eq_true q81
                                              have HP84 := Kd.R_putg HO_15.out ((rd t246 x18_4) : Int) (wrap64 ((rd x15_4 (rd t246 x18_4)) - 1))
                                              as_aux_lemma =>
                                                go_wp2_with (first | ((with_reducible refine gate_store (t := 3) (p := 166) rfl ?_); (try (rw [drewN_self wr]; generalize hq_ : World.drewN wr _ = wr; have n0_ := Aside0.mk (Eq.subst (motive := fun w_ => Kd.V _ _ w_ _ _ _ _) hq_ (Kd.V_drewN HO_0.out _)); have n1_ := Aside0.mk (Kd.R_at hq_ HO_9.out); have n2_ := Aside0.mk (Kd.R_at hq_ HO_15.out); have n3_ := Aside0.mk (below_at hq_ HB.out); clear hq_ HO_0 HO_9 HO_15 HB; have HO_0 := n0_; have HO_9 := n1_; have HO_15 := n2_; have HB := n3_; clear n0_ n1_ n2_ n3_; (try (obtain ⟨hy84_, hz84_⟩ := Kd.R_celln 0 HO_15.out ((rd t246 x18_4) : Int) (of_decide_eq_true (by first | (with_reducible assumption) | assumption)) (of_decide_eq_true (by first | (with_reducible assumption) | assumption)))); (try (have HP84 := Kd.R_putg HO_15.out ((rd t246 x18_4) : Int) (wrap64 ((rd x15_4 (rd t246 x18_4)) - 1)))))); refine store_event (t := 3) (p := 166) (v := ?vo_w85) (w1 := (wr.setCell ⟨go81, ((rd t246 x18_4) : Int).toNat, none⟩ (.int .i64 (wrap64 ((rd x15_4 (rd t246 x18_4)) - 1))))) ?hg ?ho ?hn ?hr ?_; (case ho => rfl); (case hg => rfl); (case hn => rfl); (case hr => first | (go_simp; done) | (go_simp; rfl)); intro w85 hw; have hg : wr.grownBy w85 (some go81) := (by rw [hw]; exact HP84.2); have hp_ : Kd.R (Kd.int .i64) 3 w85 w.heap.size (fun k_ => (w.heap.size ≤ k_) ∧ some k_ ≠ (.slice (some ad264) t246.length co82 : Value).ownBlock) (.slice (some ⟨go81, 0, none⟩) x15_4.length co83) y273 := (by rw [hw, Ny273.out]; exact HP84.1); clear HP84; have n0_ := Aside0.mk (Kd.V_afterv (v := (.slice (some ⟨go81, 0, none⟩) x15_4.length co83)) (v1 := (.slice (some ⟨go81, 0, none⟩) x15_4.length co83)) (ok := (fun k_ => (P0_ k_ ∨ w.heap.size ≤ k_) ∧ some k_ ≠ (.slice (some ad264) t246.length co82 : Value).ownBlock)) (by (with_reducible repeat (first | apply Kd.V_alloc | apply Kd.V_drewN | apply Kd.V_drew)); exact Kd.V_mono HO_0.out (fun _ hk => ⟨⟨hk.1, hk.2.1⟩, hk.2.2⟩)) hg (.inl rfl)); have n1_ := Aside0.mk (Kd.R_after (v := (.slice (some ⟨go81, 0, none⟩) x15_4.length co83)) (v1 := (.slice (some ⟨go81, 0, none⟩) x15_4.length co83)) (ok := (fun k_ => (w.heap.size ≤ k_))) (by (with_reducible repeat (first | apply Kd.R_alloc | apply Kd.R_drewN | apply Kd.R_drew)); exact HO_9.out) hg (.inl rfl)); have n2_ := Aside0.mk (hp_); have n3_ := Aside0.mk ((by rw [hw]; exact below_set (HB.out) GB81.out : Below w.heap.size w w85)); clear HO_0; clear HO_9; clear HO_15; clear HB; have HO_0 := n0_; have HO_9 := n1_; have HO_15 := n2_; have HB := n3_; clear n0_ n1_ n2_ n3_; clear hg hw hp_))
                                                first | (with_reducible show Handed _ _ _ _) | (repeat (go_quiet (first | ((with_reducible refine gate_store (t := 3) (p := 166) rfl ?_); (try (rw [drewN_self wr]; generalize hq_ : World.drewN wr _ = wr; have n0_ := Aside0.mk (Eq.subst (motive := fun w_ => Kd.V _ _ w_ _ _ _ _) hq_ (Kd.V_drewN HO_0.out _)); have n1_ := Aside0.mk (Kd.R_at hq_ HO_9.out); have n2_ := Aside0.mk (Kd.R_at hq_ HO_15.out); have n3_ := Aside0.mk (below_at hq_ HB.out); clear hq_ HO_0 HO_9 HO_15 HB; have HO_0 := n0_; have HO_9 := n1_; have HO_15 := n2_; have HB := n3_; clear n0_ n1_ n2_ n3_; (try (obtain ⟨hy84_, hz84_⟩ := Kd.R_celln 0 HO_15.out ((rd t246 x18_4) : Int) (of_decide_eq_true (by first | (with_reducible assumption) | assumption)) (of_decide_eq_true (by first | (with_reducible assumption) | assumption)))); (try (have HP84 := Kd.R_putg HO_15.out ((rd t246 x18_4) : Int) (wrap64 ((rd x15_4 (rd t246 x18_4)) - 1)))))); refine store_event (t := 3) (p := 166) (v := ?vo_w85) (w1 := (wr.setCell ⟨go81, ((rd t246 x18_4) : Int).toNat, none⟩ (.int .i64 (wrap64 ((rd x15_4 (rd t246 x18_4)) - 1))))) ?hg ?ho ?hn ?hr ?_; (case ho => rfl); (case hg => rfl); (case hn => rfl); (case hr => first | (go_simp; done) | (go_simp; rfl)); intro w85 hw; have hg : wr.grownBy w85 (some go81) := (by rw [hw]; exact HP84.2); have hp_ : Kd.R (Kd.int .i64) 3 w85 w.heap.size (fun k_ => (w.heap.size ≤ k_) ∧ some k_ ≠ (.slice (some ad264) t246.length co82 : Value).ownBlock) (.slice (some ⟨go81, 0, none⟩) x15_4.length co83) y273 := (by rw [hw, Ny273.out]; exact HP84.1); clear HP84; have n0_ := Aside0.mk (Kd.V_afterv (v := (.slice (some ⟨go81, 0, none⟩) x15_4.length co83)) (v1 := (.slice (some ⟨go81, 0, none⟩) x15_4.length co83)) (ok := (fun k_ => (P0_ k_ ∨ w.heap.size ≤ k_) ∧ some k_ ≠ (.slice (some ad264) t246.length co82 : Value).ownBlock)) (by (with_reducible repeat (first | apply Kd.V_alloc | apply Kd.V_drewN | apply Kd.V_drew)); exact Kd.V_mono HO_0.out (fun _ hk => ⟨⟨hk.1, hk.2.1⟩, hk.2.2⟩)) hg (.inl rfl)); have n1_ := Aside0.mk (Kd.R_after (v := (.slice (some ⟨go81, 0, none⟩) x15_4.length co83)) (v1 := (.slice (some ⟨go81, 0, none⟩) x15_4.length co83)) (ok := (fun k_ => (w.heap.size ≤ k_))) (by (with_reducible repeat (first | apply Kd.R_alloc | apply Kd.R_drewN | apply Kd.R_drew)); exact HO_9.out) hg (.inl rfl)); have n2_ := Aside0.mk (hp_); have n3_ := Aside0.mk ((by rw [hw]; exact below_set (HB.out) GB81.out : Below w.heap.size w w85)); clear HO_0; clear HO_9; clear HO_15; clear HB; have HO_0 := n0_; have HO_9 := n1_; have HO_15 := n2_; have HB := n3_; clear n0_ n1_ n2_ n3_; clear hg hw hp_)); try go_wp2_with (first | ((with_reducible refine gate_store (t := 3) (p := 166) rfl ?_); (try (rw [drewN_self wr]; generalize hq_ : World.drewN wr _ = wr; have n0_ := Aside0.mk (Eq.subst (motive := fun w_ => Kd.V _ _ w_ _ _ _ _) hq_ (Kd.V_drewN HO_0.out _)); have n1_ := Aside0.mk (Kd.R_at hq_ HO_9.out); have n2_ := Aside0.mk (Kd.R_at hq_ HO_15.out); have n3_ := Aside0.mk (below_at hq_ HB.out); clear hq_ HO_0 HO_9 HO_15 HB; have HO_0 := n0_; have HO_9 := n1_; have HO_15 := n2_; have HB := n3_; clear n0_ n1_ n2_ n3_; (try (obtain ⟨hy84_, hz84_⟩ := Kd.R_celln 0 HO_15.out ((rd t246 x18_4) : Int) (of_decide_eq_true (by first | (with_reducible assumption) | assumption)) (of_decide_eq_true (by first | (with_reducible assumption) | assumption)))); (try (have HP84 := Kd.R_putg HO_15.out ((rd t246 x18_4) : Int) (wrap64 ((rd x15_4 (rd t246 x18_4)) - 1)))))); refine store_event (t := 3) (p := 166) (v := ?vo_w85) (w1 := (wr.setCell ⟨go81, ((rd t246 x18_4) : Int).toNat, none⟩ (.int .i64 (wrap64 ((rd x15_4 (rd t246 x18_4)) - 1))))) ?hg ?ho ?hn ?hr ?_; (case ho => rfl); (case hg => rfl); (case hn => rfl); (case hr => first | (go_simp; done) | (go_simp; rfl)); intro w85 hw; have hg : wr.grownBy w85 (some go81) := (by rw [hw]; exact HP84.2); have hp_ : Kd.R (Kd.int .i64) 3 w85 w.heap.size (fun k_ => (w.heap.size ≤ k_) ∧ some k_ ≠ (.slice (some ad264) t246.length co82 : Value).ownBlock) (.slice (some ⟨go81, 0, none⟩) x15_4.length co83) y273 := (by rw [hw, Ny273.out]; exact HP84.1); clear HP84; have n0_ := Aside0.mk (Kd.V_afterv (v := (.slice (some ⟨go81, 0, none⟩) x15_4.length co83)) (v1 := (.slice (some ⟨go81, 0, none⟩) x15_4.length co83)) (ok := (fun k_ => (P0_ k_ ∨ w.heap.size ≤ k_) ∧ some k_ ≠ (.slice (some ad264) t246.length co82 : Value).ownBlock)) (by (with_reducible repeat (first | apply Kd.V_alloc | apply Kd.V_drewN | apply Kd.V_drew)); exact Kd.V_mono HO_0.out (fun _ hk => ⟨⟨hk.1, hk.2.1⟩, hk.2.2⟩)) hg (.inl rfl)); have n1_ := Aside0.mk (Kd.R_after (v := (.slice (some ⟨go81, 0, none⟩) x15_4.length co83)) (v1 := (.slice (some ⟨go81, 0, none⟩) x15_4.length co83)) (ok := (fun k_ => (w.heap.size ≤ k_))) (by (with_reducible repeat (first | apply Kd.R_alloc | apply Kd.R_drewN | apply Kd.R_drew)); exact HO_9.out) hg (.inl rfl)); have n2_ := Aside0.mk (hp_); have n3_ := Aside0.mk ((by rw [hw]; exact below_set (HB.out) GB81.out : Below w.heap.size w w85)); clear HO_0; clear HO_9; clear HO_15; clear HB; have HO_0 := n0_; have HO_9 := n1_; have HO_15 := n2_; have HB := n3_; clear n0_ n1_ n2_ n3_; clear hg hw hp_))))
                                                go_roundg k4
                                                case measure => have := HJ2.out; have := HJ25.out; have := HK3.out; have := HK4.out; ((try clear hji51w); (try clear hji51); omega)
                                                case rel => exact ⟨(y273), (wrap64 (x18_4 + 1)), (by first | rfl | (simp; done) | (simp [*]; done)), H', ⟨by have := HJ2.out; have := HJ25.out; have := HK3.out; have := HK4.out; ((try clear hji51w); (try clear hji51); omega)⟩, ⟨by (with_reducible repeat (first | apply Kd.V_alloc | apply Kd.V_drewN | apply Kd.V_drew)); exact Kd.V_mono HO_0.out (fun _ hk => ⟨hk.1.1, ⟨hk.1.2, hk.2⟩⟩)⟩, ⟨by (with_reducible repeat (first | apply Kd.R_alloc | apply Kd.R_drewN | apply Kd.R_drew)); exact HO_9.out⟩, ⟨by (with_reducible repeat (first | apply Kd.R_alloc | apply Kd.R_drewN | apply Kd.R_drew)); exact HO_15.out⟩, ⟨by repeat (first | (with_reducible first | exact HB.out | apply below_alloc | apply pw_below_drewN | apply below_drew1) | exact HB.out)⟩⟩
                                            · rw [if_neg c80] at H
                                              exact absurd H (by simp)
                                          · rw [if_neg c79] at H
                                            exact absurd H (by simp)
                                  · rw [if_neg c61] at H
                                    exact absurd H (by simp)
                                · rw [if_neg c60] at H
                                  have c60b0 : decide (x18_4 < (t246.length : Int)) = false := decide_eq_false c60
                                  clear c60
                                  have H' := Aside0.mk H
                                  clear H
                                  obtain ⟨Ao86, co86, eo86⟩ := Kd.R_slice HO_9.out
                                  subst eo86
                                  as_aux_lemma =>
                                    go_wp2
                                    repeat (go_quiet (fail); try go_wp2)
                                    go_loopg [19] k4 (fun kq v19 w' => ∃ (x19_5 : Int), v19 = .int .i64 x19_5 ∧ Aside0 (galoislaw22_PermSplits.l2 kq a1 t250 t252 x15_4 x19_5 = some r) ∧ Aside0 (kq ≤ k4) ∧ Aside0 (Kd.R (Kd.int .i64) 3 w' w.heap.size (fun k_ => (w.heap.size ≤ k_)) v255 x15_4) ∧ Aside0 (Below w.heap.size w w'))
                                    case atStart => exact ⟨(0), (by first | rfl | (simp; done) | (simp [*]; done)), H', ⟨Nat.le_refl _⟩, ⟨by (with_reducible repeat (first | apply Kd.R_alloc | apply Kd.R_drewN | apply Kd.R_drew)); exact Kd.R_mono HO_15.out (fun _ hk => hk.1)⟩, ⟨by repeat (first | (with_reducible first | exact HB.out | apply below_alloc | apply pw_below_drewN | apply below_drew1) | exact HB.out)⟩⟩
                                    case round =>
                                      clear H'
                                      try clear c1
                                      try clear p2
                                      try clear q2
                                      try clear hx2
                                      try clear c3
                                      try clear c4
                                      try clear c5
                                      try clear p5
                                      try clear q5
                                      try clear hx5
                                      try clear hf5
                                      try clear c6
                                      try clear p6
                                      try clear c7
                                      try clear p7
                                      try clear q7
                                      try clear hx7
                                      try clear hf7
                                      try clear c8
                                      try clear p8
                                      try clear q8
                                      try clear hx8
                                      try clear hf8
                                      try clear c18
                                      try clear p25
                                      try clear q25
                                      try clear hx25
                                      try clear p26
                                      try clear q26
                                      try clear hx26
                                      try clear p27
                                      try clear q27
                                      try clear hx27
                                      try clear c33
                                      try clear c33b0
                                      try clear c33b1
                                      try clear c34
                                      try clear c34b0
                                      try clear c34b1
                                      try clear c35
                                      try clear c35b0
                                      try clear c35b1
                                      try clear c36
                                      try clear c36b0
                                      try clear c36b1
                                      try clear c37
                                      try clear c39
                                      try clear c39b0
                                      try clear c39b1
                                      try clear c40
                                      try clear c40b0
                                      try clear c40b1
                                      try clear c43
                                      try clear c43b0
                                      try clear c44
                                      try clear c44b0
                                      try clear c45
                                      try clear c45b0
                                      try clear c47
                                      try clear c47b0
                                      try clear c50
                                      try clear c50b0
                                      try clear c50b1
                                      try clear c52
                                      try clear c52b0
                                      try clear c53
                                      try clear c53b0
                                      try clear p54
                                      try clear q54
                                      try clear hx54
                                      try clear hf54
                                      try clear c60
                                      try clear c60b0
                                      try clear c61
                                      try clear c61b0
                                      try clear c62
                                      try clear c62b0
                                      try clear c64
                                      try clear c64b0
                                      try clear p64
                                      try clear c66
                                      try clear c66b0
                                      try clear c68
                                      try clear c68b0
                                      try clear c69
                                      try clear c69b0
                                      try clear c70
                                      try clear c70b0
                                      try clear c72
                                      try clear c72b0
                                      try clear c73
                                      try clear c73b0
                                      try clear p74
                                      try clear q74
                                      try clear hx74
                                      try clear hf74
                                      try clear c79
                                      try clear c79b0
                                      try clear c80
                                      try clear c80b0
                                      try clear p81
                                      try clear q81
                                      try clear hx81
                                      try clear hf81
                                      try clear hx257_0
                                      try clear hx258_0
                                      try clear hx259_0
                                      try clear hx261_0
                                      try clear hx262_0
                                      try clear hx264_0
                                      try clear hx265_0
                                      try clear hx266_0
                                      try clear hx267_0
                                      try clear hx268_0
                                      try clear hx269_0
                                      try clear hx271_0
                                      try clear hx272_0
                                      try clear hx54_0
                                      try clear hx74_0
                                      try clear hx81_0
                                      try clear p2
                                      try clear p25
                                      try clear p257
                                      try clear p258
                                      try clear p259
                                      try clear p26
                                      try clear p261
                                      try clear p262
                                      try clear p264
                                      try clear p265
                                      try clear p266
                                      try clear p267
                                      try clear p268
                                      try clear p269
                                      try clear p271
                                      try clear p272
                                      try clear p5
                                      try clear p54
                                      try clear p6
                                      try clear p74
                                      try clear p81
                                      try clear q2
                                      try clear q25
                                      try clear q257
                                      try clear q258
                                      try clear q259
                                      try clear q26
                                      try clear q261
                                      try clear q262
                                      try clear q264
                                      try clear q265
                                      try clear q266
                                      try clear q267
                                      try clear q268
                                      try clear q269
                                      try clear q271
                                      try clear q272
                                      try clear q5
                                      try clear q54
                                      try clear q74
                                      try clear q81
                                      obtain ⟨x19_5, rfl, HA, HK5, HO_15, HB⟩ := hrel
                                      cases gk with
                                      | zero => exact absurd HA.out (by simp [galoislaw22_PermSplits.l2])
                                      | succ k5 =>
                                        have H := HA.out
                                        clear HA
                                        simp only [galoislaw22_PermSplits.l2] at H
                                        by_cases c87 : x19_5 < (x15_4.length : Int)
                                        · rw [if_pos c87] at H
                                          have c87b0 : decide (x19_5 < (x15_4.length : Int)) = true := decide_eq_true c87
                                          clear c87
                                          by_cases c88 : 0 ≤ x19_5
                                          · rw [if_pos c88] at H
                                            have c88b0 : decide (0 ≤ x19_5) = true := decide_eq_true c88
                                            clear c88
                                            by_cases c89 : (rd x15_4 x19_5) = 0
                                            · rw [if_pos c89] at H
                                              have c89b0 : ((rd x15_4 x19_5) == 0) = true := beq_iff_eq.mpr c89
                                              have c89b1 : ((rd x15_4 x19_5) != 0) = false := bne_eq_false_iff_eq.mpr c89
                                              clear c89
                                              have H' := Aside0.mk H
                                              clear H
                                              obtain ⟨Ao90, co90, eo90⟩ := Kd.R_slice HO_15.out
                                              subst eo90
                                              have p274 : 0 ≤ (x19_5 : Int) := of_decide_eq_true (by first | (with_reducible assumption) | assumption)
                                              have q274 : x19_5 < (x15_4.length : Int) := of_decide_eq_true (by first | (with_reducible assumption) | assumption)
                                              obtain ⟨ad274, e274, hx274_0⟩ := Kd.at_int (Kd.R_reads' HO_15.out).2.2 x19_5 p274 q274
                                              cases e274
                                              replace p274 := eq_true p274
                                              replace q274 := eq_true q274
                                              as_aux_lemma =>
                                                go_wp2
                                                first | (with_reducible show Handed _ _ _ _) | (repeat (go_quiet (fail); try go_wp2))
                                                go_roundg k5
                                                case measure => have := HJ2.out; have := HJ25.out; have := HK3.out; have := HK4.out; have := HK5.out; ((try clear hji51w); (try clear hji51); omega)
                                                case rel => exact ⟨(wrap64 (x19_5 + 1)), (by first | rfl | (simp; done) | (simp [*]; done)), H', ⟨by have := HJ2.out; have := HJ25.out; have := HK3.out; have := HK4.out; have := HK5.out; ((try clear hji51w); (try clear hji51); omega)⟩, ⟨by (with_reducible repeat (first | apply Kd.R_alloc | apply Kd.R_drewN | apply Kd.R_drew)); exact HO_15.out⟩, ⟨by repeat (first | (with_reducible first | exact HB.out | apply below_alloc | apply pw_below_drewN | apply below_drew1) | exact HB.out)⟩⟩
                                            · rw [if_neg c89] at H
                                              have c89b0 : ((rd x15_4 x19_5) == 0) = false := beq_eq_false_iff_ne.mpr c89
                                              have c89b1 : ((rd x15_4 x19_5) != 0) = true := bne_iff_ne.mpr c89
                                              obtain rfl := Option.some.inj H
                                              obtain ⟨Ao91, co91, eo91⟩ := Kd.R_slice HO_15.out
                                              subst eo91
                                              have p274 : 0 ≤ (x19_5 : Int) := of_decide_eq_true (by first | (with_reducible assumption) | assumption)
                                              have q274 : x19_5 < (x15_4.length : Int) := of_decide_eq_true (by first | (with_reducible assumption) | assumption)
                                              obtain ⟨ad274, e274, hx274_0⟩ := Kd.at_int (Kd.R_reads' HO_15.out).2.2 x19_5 p274 q274
                                              cases e274
                                              replace p274 := eq_true p274
                                              replace q274 := eq_true q274
                                              as_aux_lemma =>
                                                go_wp2
                                                repeat (go_quiet (fail); try go_wp2)
                                                go_ret
                                                exact ⟨by first | rfl | (simp [errW_none, errW_some] <;> rfl) | (simp only [← hji38]; first | rfl | (simp [errW_none, errW_some] <;> rfl)) | (simp [*, errW_none, errW_some] <;> rfl), by repeat (first | (with_reducible first | exact HB.out | apply below_alloc | apply pw_below_drewN | apply below_drew1) | exact HB.out)⟩
                                          · rw [if_neg c88] at H
                                            exact absurd H (by simp)
                                        · rw [if_neg c87] at H
                                          have c87b0 : decide (x19_5 < (x15_4.length : Int)) = false := decide_eq_false c87
                                          clear c87
                                          by_cases c92 : t250 > 0
                                          · rw [if_pos c92] at H
                                            have c92b0 : decide (0 < t250) = true := decide_eq_true c92
                                            clear c92
                                            replace H := Option.bind_eq_some_iff.mp H
                                            obtain ⟨t275, A930, H⟩ := H
                                            replace H : (if t275 = 0 then (none) else (some (t252 == (wrap64 (Int.tdiv t250 t275))))) = some r := H
                                            have A93 := Aside0.mk A930
                                            clear A930
                                            by_cases c94 : t275 = 0
                                            · rw [if_pos c94] at H
                                              exact absurd H (by simp)
                                            · rw [if_neg c94] at H
                                              have c94b0 : (t275 == 0) = false := beq_eq_false_iff_ne.mpr c94
                                              have c94b1 : (t275 != 0) = true := bne_iff_ne.mpr c94
                                              obtain rfl := Option.some.inj H
                                              obtain ⟨Ao95, co95, eo95⟩ := Kd.R_slice HO_15.out
                                              subst eo95
                                              as_aux_lemma =>
                                                go_wp2_with (first | (go_at_call 38; (with_reducible refine (galoislaw22_gcd.calls k5 t250 (wrap64 (a1)) t275 _ A93.out).mono ?_); rintro e w' ⟨rfl, ⟨nd, rfl⟩⟩; (try first | exact ⟨rfl, _, World.drewN_drewN _ _ _⟩ | exact ⟨rfl, _, Eq.trans (World.drewN_drewN _ _ _) (congrArg (World.drewN _) (Nat.add_assoc _ _ _))⟩)))
                                                repeat (go_quiet (first | (go_at_call 38; (with_reducible refine (galoislaw22_gcd.calls k5 t250 (wrap64 (a1)) t275 _ A93.out).mono ?_); rintro e w' ⟨rfl, ⟨nd, rfl⟩⟩; (try first | exact ⟨rfl, _, World.drewN_drewN _ _ _⟩ | exact ⟨rfl, _, Eq.trans (World.drewN_drewN _ _ _) (congrArg (World.drewN _) (Nat.add_assoc _ _ _))⟩))); try go_wp2_with (first | (go_at_call 38; (with_reducible refine (galoislaw22_gcd.calls k5 t250 (wrap64 (a1)) t275 _ A93.out).mono ?_); rintro e w' ⟨rfl, ⟨nd, rfl⟩⟩; (try first | exact ⟨rfl, _, World.drewN_drewN _ _ _⟩ | exact ⟨rfl, _, Eq.trans (World.drewN_drewN _ _ _) (congrArg (World.drewN _) (Nat.add_assoc _ _ _))⟩))))
                                                go_ret
                                                exact ⟨by first | rfl | (simp [errW_none, errW_some] <;> rfl) | (simp only [← hji38]; first | rfl | (simp [errW_none, errW_some] <;> rfl)) | (simp [*, errW_none, errW_some] <;> rfl), by repeat (first | (with_reducible first | exact HB.out | apply below_alloc | apply pw_below_drewN | apply below_drew1) | exact HB.out)⟩
                                          · rw [if_neg c92] at H
                                            have c92b0 : decide (0 < t250) = false := decide_eq_false c92
                                            clear c92
                                            obtain rfl := Option.some.inj H
                                            obtain ⟨Ao96, co96, eo96⟩ := Kd.R_slice HO_15.out
                                            subst eo96
                                            as_aux_lemma =>
                                              go_wp2
                                              repeat (go_quiet (fail); try go_wp2)
                                              go_ret
                                              exact ⟨by first | rfl | (simp [errW_none, errW_some] <;> rfl) | (simp only [← hji38]; first | rfl | (simp [errW_none, errW_some] <;> rfl)) | (simp [*, errW_none, errW_some] <;> rfl), by repeat (first | (with_reducible first | exact HB.out | apply below_alloc | apply pw_below_drewN | apply below_drew1) | exact HB.out)⟩
                · rw [if_neg c40] at H
                  exact absurd H (by simp)
              · rw [if_neg c39] at H
                exact absurd H (by simp)

/-- THE ONE PURE STATEMENT of galoislaw22_PermSplits: yours. -/
def galoislaw22_PermSplits.Pure : Prop := ∀ (l0 : List Int) (a1 : Int), l0.length ≤ maxLen → l0.length * 8 ≤ 140737488351232 → (∀ x ∈ l0, (Lit.int .i64 x).wf = true) → (Lit.int .i16 a1).wf = true → ∃ k, galoislaw22_PermSplits.f k l0 a1 = some true
theorem galoislaw22_PermSplits.walk (P : galoislaw22_PermSplits.Pure) (a0 : Option Addr) (len0 cap0 : Nat) (z0 : List Int) (a1 : Int) (w : World) (w0 : (a0 = none ∧ len0 = 0 ∧ cap0 = 0 ∧ z0 = []) ∨ ∃ x, a0 = some x ∧ len0 ≤ cap0 ∧ cap0 ≤ maxLen ∧ z0.length = cap0 ∧ (∀ i, i < z0.length → w.cell? (x.add i) = some (.int .i64 (z0.getD i 0))) ∧ ∀ n ∈ z0, (Lit.int .i64 n).wf = true) (y0 : len0 * 8 ≤ 140737488351232) (w1 : (Lit.int .i16 a1).wf = true) :
    Calls Tryd.prog 7 #[.slice a0 len0 cap0, .int .i16 a1] w fun e w' => e = .returned (.bool true) ∧ Below w.heap.size w w' := by
  obtain ⟨l0, rfl, hr0, hm0, hw0, hc0⟩ := ReadsInt.ofRowC w0
  obtain ⟨k, h⟩ := P l0 a1 hm0 y0 hw0 w1
  refine (galoislaw22_PermSplits.calls k (fun k_ => k_ < w.heap.size) _ _ l0 a1 true w (Kd.V_mk hc0 (Kd.C_F (Kd.heap_int .i64) (Kd.C_of_reads (d := (0 : Int)) (h1 := fun _ => rfl) hr0))) h).mono ?_
  rintro e w' ⟨rfl, hd⟩
  exact ⟨rfl, hd⟩

end Go.Proofs.YtoaalfpfklchfaaDoor.PPermSplits
