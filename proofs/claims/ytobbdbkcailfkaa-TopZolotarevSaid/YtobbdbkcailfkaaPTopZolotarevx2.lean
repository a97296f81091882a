-- Printed by wip/tools/mk.py of this repo (the kit's print with turns made in memory).
import Derived.Test.YtobbdbkcailfkaaPTopZolotarevx0
namespace Go.Proofs.Ytobbdbkcailfkaa.PTopZolotarev
open Go.RowKit Go.Proofs.YtobbdbkcailfkaaW.PrintWords Go.Proofs.YtobbdbkcailfkaaW.PrintLast Go.Proofs.YtobbdbkcailfkaaW.PrintMore
attribute [local go_sem] max2_int min2_int max_two min_two max_three min_three max_four min_four   -- for this text's walks alone
set_option linter.unusedVariables false
set_option linter.unusedSimpArgs false

-- NOT PRINTED: function 52 (slices_IndexFunc_int_int)

-- NOT PRINTED: function 36 (slices_ContainsFunc_int_int)

/-! ### residue_bad: function 19 -/
def residue_bad.bad1 (n : Int) : Bool := decide (n < 1) || decide (n > 2147483647)
def residue_bad.l0 : Nat → List Int → Int → Option (Int)
  | 0, _, _ => none
  | k + 1, x0, x3 => if x3 < (x0.length : Int) then (if 0 ≤ x3 then (if residue_bad.bad1 (rd x0 x3) = true then (some x3) else (residue_bad.l0 k x0 (wrap64 (x3 + 1)))) else (none)) else (some (-1))
set_option maxHeartbeats 8000000 in
set_option maxRecDepth 100000 in
theorem residue_bad.one (n : Int) (w : World) : Calls Try.prog 37 #[.int .i64 n] w fun e w' => e = .returned (.bool (residue_bad.bad1 n)) ∧ Drawn0 w w' := by
  by_cases c1 : n < 1
  · have c1b : decide (n < 1) = true := decide_eq_true c1
    have e : residue_bad.bad1 n = true := by unfold residue_bad.bad1; rw [c1b]; rfl
    rw [e]
    go_enter Try.func37, Try.ntmps37
    go_wp2
    go_ret
    exact ⟨by first | rfl | (simp; done) | (simp [*]; done), by repeat (first | exact Drawn0.refl _ | apply Drawn0.step)⟩
  · have c1b : decide (n < 1) = false := decide_eq_false c1
    have e : residue_bad.bad1 n = decide (2147483647 < n) := by unfold residue_bad.bad1; rw [c1b]; rfl
    rw [e]
    go_enter Try.func37, Try.ntmps37
    go_wp2
    go_ret
    exact ⟨by first | rfl | (simp; done) | (simp [*]; done), by repeat (first | exact Drawn0.refl _ | apply Drawn0.step)⟩
set_option maxHeartbeats 8000000 in
set_option maxRecDepth 100000 in
theorem residue_bad.idx (k : Nat) (A0 : Option Addr) (c0 : Nat) (l0 : List Int) (r : Int) (w : World) (hr0 : Kd.C (Kd.int .i64) w A0 l0.length l0) (hc0 : l0.length ≤ c0) (h : residue_bad.l0 k l0 0 = some r) :
    Calls Try.prog 52 #[.slice A0 l0.length c0, .func (.func 37) #[] #[]] w fun e w' => e = .returned (.int .i64 r) ∧ Drawn0 w w' := by
  have HR0 := Aside0.mk hr0
  have HC0 := Aside0.mk hc0
  clear hr0 hc0
  have H' := Aside0.mk h
  clear h
  go_enter Try.func52, Try.ntmps52
  go_wp2
  go_loopg [8] k (fun kq v8 w' => ∃ (x8_1 : Int), v8 = .int .i64 x8_1 ∧ Aside0 (residue_bad.l0 kq l0 x8_1 = some r) ∧ Aside0 (kq ≤ k) ∧ Drawn0 w w')
  case atStart => exact ⟨(0), (by first | rfl | (simp; done) | (simp [*]; done)), H', ⟨Nat.le_refl _⟩, by repeat (first | exact Drawn0.refl _ | apply Drawn0.step)⟩
  case round =>
    clear H'
    obtain ⟨x8_1, rfl, HA, HK1, ⟨m1, rfl⟩⟩ := hrel
    cases gk with
    | zero => exact absurd HA.out (by simp [residue_bad.l0])
    | succ k1 =>
      have H := HA.out
      clear HA
      simp only [residue_bad.l0] at H
      by_cases c3 : x8_1 < (l0.length : Int)
      · rw [if_pos c3] at H
        have c3b0 : decide (x8_1 < (l0.length : Int)) = true := decide_eq_true c3
        clear c3
        by_cases c4 : 0 ≤ x8_1
        · rw [if_pos c4] at H
          have c4b0 : decide (0 ≤ x8_1) = true := decide_eq_true c4
          clear c4
          have p218 : 0 ≤ (x8_1 : Int) := of_decide_eq_true (by first | (with_reducible assumption) | assumption)
          have q218 : x8_1 < (l0.length : Int) := of_decide_eq_true (by first | (with_reducible assumption) | assumption)
          obtain ⟨ad218, e218, hx218_0⟩ := Kd.at_int HR0.out x8_1 p218 q218
          cases e218
          replace p218 := eq_true p218
          replace q218 := eq_true q218
          by_cases c6 : residue_bad.bad1 (rd l0 x8_1) = true
          · rw [if_pos c6] at H
            obtain rfl := Option.some.inj H
            go_wp2_with (go_at_call 37; (with_reducible refine (residue_bad.one (rd l0 x8_1) _).mono ?_); rintro e w' ⟨rfl, ⟨nd, rfl⟩⟩; rw [c6]; (try first | exact ⟨rfl, _, World.drewN_drewN _ _ _⟩ | exact ⟨rfl, _, Eq.trans (World.drewN_drewN _ _ _) (congrArg (World.drewN _) (Nat.add_assoc _ _ _))⟩))
            go_ret
            exact ⟨by first | rfl | (simp; done) | (simp [*]; done), by repeat (first | exact Drawn0.refl _ | apply Drawn0.step)⟩
          · rw [if_neg c6] at H
            have c6 : residue_bad.bad1 (rd l0 x8_1) = false := Bool.eq_false_iff.2 c6
            have H' := Aside0.mk H
            clear H
            go_wp2_with (go_at_call 37; (with_reducible refine (residue_bad.one (rd l0 x8_1) _).mono ?_); rintro e w' ⟨rfl, ⟨nd, rfl⟩⟩; rw [c6]; (try first | exact ⟨rfl, _, World.drewN_drewN _ _ _⟩ | exact ⟨rfl, _, Eq.trans (World.drewN_drewN _ _ _) (congrArg (World.drewN _) (Nat.add_assoc _ _ _))⟩))
            go_roundg k1
            case measure => have := HK1.out; omega
            case rel => exact ⟨(wrap64 (x8_1 + 1)), (by first | rfl | (simp; done) | (simp [*]; done)), H', ⟨by have := HK1.out; omega⟩, by repeat (first | exact Drawn0.refl _ | apply Drawn0.step)⟩
        · rw [if_neg c4] at H
          exact absurd H (by simp)
      · rw [if_neg c3] at H
        have c3b0 : decide (x8_1 < (l0.length : Int)) = false := decide_eq_false c3
        clear c3
        obtain rfl := Option.some.inj H
        go_wp2
        go_ret
        exact ⟨by first | rfl | (simp; done) | (simp [*]; done), by repeat (first | exact Drawn0.refl _ | apply Drawn0.step)⟩
set_option maxHeartbeats 8000000 in
set_option maxRecDepth 100000 in
theorem residue_bad.has (k : Nat) (A0 : Option Addr) (c0 : Nat) (l0 : List Int) (r : Int) (w : World) (hr0 : Kd.C (Kd.int .i64) w A0 l0.length l0) (hc0 : l0.length ≤ c0) (h : residue_bad.l0 k l0 0 = some r) :
    Calls Try.prog 36 #[.slice A0 l0.length c0, .func (.func 37) #[] #[]] w fun e w' => e = .returned (.bool (decide (r ≥ 0))) ∧ Drawn0 w w' := by
  have HR0 := Aside0.mk hr0
  have HC0 := Aside0.mk hc0
  clear hr0 hc0
  have A1 := Aside0.mk h
  clear h
  go_enter Try.func36, Try.ntmps36
  go_wp2_with (go_at_call 52; (with_reducible refine (residue_bad.idx k A0 c0 l0 r _ HR0.out HC0.out A1.out).mono ?_); rintro e w' ⟨rfl, ⟨nd, rfl⟩⟩; (try first | exact ⟨rfl, _, World.drewN_drewN _ _ _⟩ | exact ⟨rfl, _, Eq.trans (World.drewN_drewN _ _ _) (congrArg (World.drewN _) (Nat.add_assoc _ _ _))⟩))
  go_ret
  exact ⟨by first | rfl | (simp; done) | (simp [*]; done), by repeat (first | exact Drawn0.refl _ | apply Drawn0.step)⟩
def residue_bad.f (k : Nat) (l0 : List Int) : Option (Bool) := (residue_bad.l0 k l0 0).bind fun t => (some (decide (t ≥ 0)))
theorem residue_bad.mono_l : ∀ k, (∀ y0 y1, LeO (residue_bad.l0 k y0 y1) (residue_bad.l0 (k + 1) y0 y1))
  | 0 => fun _ _ r h => by simp [residue_bad.l0] at h
  | k + 1 => by
    have ih0 := residue_bad.mono_l k
    · intro y0 y1
      unfold residue_bad.l0
      repeat' first
      | (with_reducible exact ih0 _ _)
      | (with_reducible exact LeO.refl _)
      | (with_reducible exact LeO.none _)
      | (with_reducible refine LeO.ite ?_ ?_)
theorem residue_bad.mono : ∀ a0 k, LeO (residue_bad.f k a0) (residue_bad.f (k + 1) a0) := by
  intro a0 k
  unfold residue_bad.f
  exact LeO.bind (residue_bad.mono_l k a0 0) (fun _ => LeO.refl _)
set_option maxHeartbeats 8000000 in
set_option maxRecDepth 100000 in
theorem residue_bad.calls (k : Nat) (A0 : Option Addr) (c0 : Nat) (l0 : List Int) (r : Bool) (w : World) (hr0 : Kd.C (Kd.int .i64) w A0 l0.length l0) (hc0 : l0.length ≤ c0) (h : residue_bad.f k l0 = some r) :
    Calls Try.prog 19 #[.slice A0 l0.length c0] w fun e w' => e = .returned (.bool r) ∧ Drawn0 w w' := by
  have hmf : ∀ (fn : Fn) (first cap : Array Value) (w : World), (Instr.makeFunc fn first cap).run Try.prog w = .ok (.func fn first cap) w := fun _ _ _ _ => rfl
  have HR0 := Aside0.mk hr0
  have HC0 := Aside0.mk hc0
  clear hr0 hc0
  replace h := Option.bind_eq_some_iff.mp h
  obtain ⟨t, A10, H⟩ := h
  obtain rfl := Option.some.inj H
  have A1 := Aside0.mk A10
  clear A10
  go_enter Try.func19, Try.ntmps19
  go_wp2_with (go_at_call 36; (with_reducible refine (residue_bad.has k A0 c0 l0 t _ HR0.out HC0.out A1.out).mono ?_); rintro e w' ⟨rfl, ⟨nd, rfl⟩⟩; (try first | exact ⟨rfl, _, World.drewN_drewN _ _ _⟩ | exact ⟨rfl, _, Eq.trans (World.drewN_drewN _ _ _) (congrArg (World.drewN _) (Nat.add_assoc _ _ _))⟩))
  go_ret
  exact ⟨by first | rfl | (simp; done) | (simp [*]; done), by repeat (first | exact Drawn0.refl _ | apply Drawn0.step)⟩


/-! ### residue_factor: function 27 -/
def residue_factor.l0 : Nat → Int → Int → Int → Option (Int × Int)
  | 0, _, _, _ => none
  | q + 1, d, n, k => if d = 0 then none else if Int.tmod n d = 0 then residue_factor.l0 q d (wrap64 (Int.tdiv n d)) (wrap64 (k + 1)) else some (n, k)
structure residue_factor.At (B bn bo : Nat) (w0 w : World) (n : Int) (v : Value) (xs : List S53) : Prop where
  hbn : bn < w.heap.size
  hbo : bo < w.heap.size
  hN : w.cell? ⟨bn, 0, none⟩ = some (.int .i64 n)
  hNf : w.frozen? ⟨bn, 0, none⟩ = false
  hO : w.cell? ⟨bo, 0, none⟩ = some v
  hOf : w.frozen? ⟨bo, 0, none⟩ = false
  hR : Kd.R k53 53 w B (fun k => k ≠ bn ∧ k ≠ bo) v xs
  HB : Below B w0 w
theorem residue_factor.At.setN {B bn bo : Nat} {w0 w : World} {n : Int} {v : Value} {xs : List S53} (h : residue_factor.At B bn bo w0 w n v xs) (hne : bn ≠ bo) (hBn : B ≤ bn) (m : Int) :
    residue_factor.At B bn bo w0 (w.setCell ⟨bn, 0, none⟩ (.int .i64 m)) m v xs where
  hbn := by simp [World.setCell]; exact h.hbn
  hbo := by simp [World.setCell]; exact h.hbo
  hN := World.cell?_setCell_same' _ _ _ (by rw [h.hN]; rfl)
  hNf := by rw [World.frozen?_setCell]; exact h.hNf
  hO := by rw [World.cell?_setCell_far _ _ _ _ hne]; exact h.hO
  hOf := by rw [World.frozen?_setCell]; exact h.hOf
  hR := Kd.R_far h.hR (fun k hk => hk.1) _
  HB := h.HB.setCell hBn _
set_option maxHeartbeats 8000000 in
set_option maxRecDepth 100000 in
theorem residue_factor.one (q : Nat) (d n n' k' : Int) (B bn bo : Nat) (v : Value) (xs : List S53) (w0 w : World) (h : residue_factor.l0 q d n 0 = some (n', k')) (hl : xs.length < 100)
    (hne : bn ≠ bo) (hBn : B ≤ bn) (hBo : B ≤ bo) (hA : residue_factor.At B bn bo w0 w n v xs) :
    Calls Try.prog 43 #[.int .i64 d, .pointer (some ⟨bn, 0, none⟩), .pointer (some ⟨bo, 0, none⟩)] w fun e w' => e = .returned (.tuple #[]) ∧ ∃ v', residue_factor.At B bn bo w0 w' n' v' (if k' > 0 then xs ++ [⟨d, k'⟩] else xs) := by
  have H' := Aside0.mk h
  have HA0 := Aside0.mk hA
  clear h hA
  go_enter Try.func43, Try.ntmps43
  go_wp2
  go_loopg [4] q (fun kq v4 w' => ∃ (n_ k_ : Int), v4 = .int .i64 k_ ∧ Aside0 (residue_factor.l0 kq d n_ k_ = some (n', k')) ∧ Aside0 (kq ≤ q) ∧ Aside0 (residue_factor.At B bn bo w0 w' n_ v xs))
  case atStart => exact ⟨n, 0, (by first | rfl | (simp; done) | (simp [*]; done)), H', ⟨Nat.le_refl _⟩, HA0⟩
  case round =>
    clear H'
    obtain ⟨n_, k_, rfl, HA, HK1, HW⟩ := hrel
    cases gk with
    | zero => exact absurd HA.out (by simp [residue_factor.l0])
    | succ k1 =>
      have H := HA.out
      clear HA
      have hN := HW.out.hN
      have hNf := HW.out.hNf
      have hO := HW.out.hO
      have hOf := HW.out.hOf
      simp only [residue_factor.l0] at H
      by_cases c1 : d = 0
      · rw [if_pos c1] at H
        cases H
      · rw [if_neg c1] at H
        have c1b0 : (d == 0) = false := beq_eq_false_iff_ne.mpr c1
        by_cases c2 : Int.tmod n_ d = 0
        · rw [if_pos c2] at H
          have c2b0 : (Int.tmod n_ d == 0) = true := beq_iff_eq.mpr c2
          have H' := Aside0.mk H
          clear H
          go_wp2
          go_roundg k1
          case measure => have := HK1.out; omega
          case rel => exact ⟨wrap64 (Int.tdiv n_ d), wrap64 (k_ + 1), (by first | rfl | (simp; done) | (simp [*]; done)), H', ⟨by have := HK1.out; omega⟩, ⟨HW.out.setN hne hBn _⟩⟩
        · rw [if_neg c2] at H
          have c2b0 : (Int.tmod n_ d == 0) = false := beq_eq_false_iff_ne.mpr c2
          obtain ⟨rfl, rfl⟩ := Prod.mk.inj (Option.some.inj H)
          by_cases c3 : k_ > 0
          · have c3b0 : decide (0 < k_) = true := decide_eq_true c3
            have hR1 := HW.out.hR
            have nbo : some bo ≠ v.ownBlock := fun e => (hR1.1 bo e.symm).2 rfl
            have nbn : some bn ≠ v.ownBlock := fun e => (hR1.1 bn e.symm).1 rfl
            go_wp2_with ((with_reducible refine gate_builtin (b := .append) (xs := #[.tmp 16, .tmp 20]) rfl ?_); at_builtin; refine Kd.R_append k53 (w0 := wr) B rfl (.tmp 16) (.tmp 20) 50 53 (.agg #[.int .i64 0, .int .i64 0]) 16 rfl Try.underlying50 info53 rfl (by decide) (by omega) v xs (⟨d, k_⟩ : S53) [.int .i64 d, .int .i64 k_] (fun k => k ≠ bn ∧ k ≠ bo) (fun _ => False) rfl rfl ?aP (fun _ hk => hk.elim) ?aF ?aO ?aB ?aS ?aL ?_; (case aP => exact k53_mkM _ _ _ (⟨d, k_⟩ : S53)); (case aF => exact fun k hk => ⟨fun e => by have := HW.out.hbn; omega, fun e => by have := HW.out.hbo; omega⟩); (case aO => exact hR1); (case aB => exact Below.refl _ _); (case aS => have := HW.out.hbn; omega); (case aL => omega); intro v1 w1 ho hb hg hat; obtain ⟨Ao1, co1, eo1⟩ := Kd.R_slice ho; subst eo1; have hO1 := cell_grown hg hO nbo; have hOf1 : w1.frozen? ⟨bo, 0, none⟩ = false := (World.frozen?_of_block (w := wr) (hg.block bo HW.out.hbo nbo)).trans hOf)
            go_end0
            refine ⟨rfl, .slice Ao1 (xs ++ [(⟨d, k_⟩ : S53)]).length co1, ?_⟩
            first | rw [if_pos (by omega)] | skip
            exact {
              hbn := by have := HW.out.hbn; have := hg.size; simp [World.setCell]; omega
              hbo := by have := HW.out.hbo; have := hg.size; simp [World.setCell]; omega
              hN := by rw [World.cell?_setCell_far _ _ _ _ (fun e => hne e.symm)]; exact cell_grown hg hN nbn
              hNf := by rw [World.frozen?_setCell]; exact (World.frozen?_of_block (w := wr) (hg.block bn HW.out.hbn nbn)).trans hNf
              hO := (World.cell?_setCell_same' _ _ _ (by rw [hO1]; rfl)).trans (by rw [List.length_append, List.length_singleton])
              hOf := by rw [World.frozen?_setCell]; exact hOf1
              hR := Kd.R_far ho (fun k hk => hk.2) _
              HB := (HW.out.HB.trans hb).setCell hBo _ }
          · have c3b0 : decide (0 < k_) = false := decide_eq_false c3
            go_wp2
            go_end0
            exact ⟨rfl, v, by first | exact HW.out | (rw [if_neg (by omega)]; exact HW.out)⟩
/-- The whole: divided by 2, then by odd numbers, then what is left. -/
def residue_factor.add (d : Int) (t : Int × Int) (xs : List S53) : List S53 := if t.2 > 0 then xs ++ [⟨d, t.2⟩] else xs
def residue_factor.l1 : Nat → Int → Int → List S53 → Option (List S53)
  | 0, _, _, _ => none
  | q + 1, n, d, xs => if (wrap64 (d * d)) ≤ n then (if xs.length < 50 then (residue_factor.l0 q d n 0).bind fun t => residue_factor.l1 q t.1 (wrap64 (d + 2)) (residue_factor.add d t xs) else none)
      else if n > 1 then (if xs.length < 50 then (residue_factor.l0 q n n 0).bind fun t => some (residue_factor.add n t xs) else none) else some xs
def residue_factor.f (q : Nat) (n : Int) : Option (List (S53)) := (residue_factor.l0 q 2 n 0).bind fun t => residue_factor.l1 q t.1 3 (residue_factor.add 2 t [])
theorem residue_factor.mono_0 : ∀ k d n x, LeO (residue_factor.l0 k d n x) (residue_factor.l0 (k + 1) d n x)
  | 0, _, _, _ => fun r h => by simp [residue_factor.l0] at h
  | k + 1, d, n, x => by
    unfold residue_factor.l0
    exact LeO.ite (LeO.refl _) (LeO.ite (residue_factor.mono_0 k _ _ _) (LeO.refl _))
theorem residue_factor.mono_1 : ∀ k n d xs, LeO (residue_factor.l1 k n d xs) (residue_factor.l1 (k + 1) n d xs)
  | 0, _, _, _ => fun r h => by simp [residue_factor.l1] at h
  | k + 1, n, d, xs => by
    unfold residue_factor.l1
    refine LeO.ite (LeO.ite (LeO.bind (residue_factor.mono_0 _ _ _ _) fun t => residue_factor.mono_1 k _ _ _) (LeO.refl _)) (LeO.ite (LeO.ite (LeO.bind (residue_factor.mono_0 _ _ _ _) fun _ => LeO.refl _) (LeO.refl _)) (LeO.refl _))
theorem residue_factor.mono : ∀ a0 k, LeO (residue_factor.f k a0) (residue_factor.f (k + 1) a0) := by
  intro a0 k
  unfold residue_factor.f
  exact LeO.bind (residue_factor.mono_0 _ _ _ _) fun t => residue_factor.mono_1 _ _ _ _
set_option maxHeartbeats 8000000 in
set_option maxRecDepth 100000 in
theorem residue_factor.calls (k : Nat) (a0 : Int) (r : List (S53)) (w : World) (h : residue_factor.f k a0 = some r) :
    Calls Try.prog 27 #[.int .i64 a0] w fun e w' => ∃ v0_ : Value, e = .returned (v0_) ∧ Kd.R k53 53 w' w.heap.size (fun _ => True) v0_ r ∧ Below w.heap.size w w' := by
  have hmf : ∀ (fn : Fn) (first cap : Array Value) (w : World), (Instr.makeFunc fn first cap).run Try.prog w = .ok (.func fn first cap) w := fun _ _ _ _ => rfl
  replace h := Option.bind_eq_some_iff.mp h
  obtain ⟨⟨n1, k1⟩, A10, H⟩ := h
  have A1 := Aside0.mk A10
  have H' := Aside0.mk H
  clear A10 H
  go_enter Try.func27, Try.ntmps27
  have hA0 : residue_factor.At w.heap.size w.heap.size (w.heap.size + 1) w ((w.alloc (.cells #[.int .i64 a0] 3)).alloc (.cells #[.slice none 0 0] 50)) a0 (.slice none 0 0) [] := {
    hbn := by simp; omega
    hbo := by simp
    hN := by rw [World.cell?_alloc_past _ _ _ (by simp), World.cell?_alloc_at _ _ _ _ rfl]; rfl
    hNf := by rw [World.frozen?_alloc_past _ _ _ (by simp), World.frozen?_alloc_at _ _ _ _ rfl]
    hO := by rw [World.cell?_alloc_at _ _ _ _ (by simp)]; rfl
    hOf := World.frozen?_alloc_at _ _ _ _ (by simp)
    hR := Kd.R_nil _ _ _ _ _
    HB := ((Below.refl _ _).alloc (Nat.le_refl _) _).alloc (by simp) _ }
  go_wp2_with fail
  refine (residue_factor.one k 2 a0 n1 k1 w.heap.size w.heap.size (w.heap.size + 1) _ [] w _ A1.out (by decide) (by omega) (Nat.le_refl _) (by omega) hA0).mono ?_
  rintro e w1 ⟨rfl, v1, hA1⟩
  have HA1 := Aside0.mk hA1
  clear hA1 hA0
  go_wp2
  go_loopg [5] k (fun kq v5 w' => ∃ (n_ d_ : Int) (v_ : Value) (xs_ : List S53), v5 = .int .i64 d_ ∧ Aside0 (residue_factor.l1 kq n_ d_ xs_ = some r) ∧ Aside0 (kq ≤ k) ∧ Aside0 (residue_factor.At w.heap.size w.heap.size (w.heap.size + 1) w w' n_ v_ xs_))
  case atStart => exact ⟨n1, 3, v1, _, (by first | rfl | (simp; done) | (simp [*]; done)), H', ⟨Nat.le_refl _⟩, HA1⟩
  case round =>
    clear H' HA1
    obtain ⟨n_, d_, v_, xs_, rfl, HA, HK1, HW⟩ := hrel
    cases gk with
    | zero => exact absurd HA.out (by simp [residue_factor.l1])
    | succ q1 =>
      have H := HA.out
      clear HA
      have hN := HW.out.hN
      have hNf := HW.out.hNf
      have hO := HW.out.hO
      have hOf := HW.out.hOf
      simp only [residue_factor.l1] at H
      by_cases c1 : (wrap64 (d_ * d_)) ≤ n_
      · rw [if_pos c1] at H
        have c1b0 : decide ((wrap64 (d_ * d_)) ≤ n_) = true := decide_eq_true c1
        by_cases c2 : xs_.length < 50
        · rw [if_pos c2] at H
          replace H := Option.bind_eq_some_iff.mp H
          obtain ⟨⟨n2, k2⟩, A20, H⟩ := H
          have A2 := Aside0.mk A20
          have H' := Aside0.mk H
          clear A20 H c1
          go_wp2_with fail
          refine (residue_factor.one q1 d_ n_ n2 k2 w.heap.size w.heap.size (w.heap.size + 1) v_ xs_ w _ A2.out (by omega) (by omega) (Nat.le_refl _) (by omega) HW.out).mono ?_
          rintro e w2 ⟨rfl, v2, hA2⟩
          have HA2 := Aside0.mk hA2
          clear hA2
          go_wp2
          go_roundg q1
          case measure => have := HK1.out; omega
          case rel => exact ⟨n2, wrap64 (d_ + 2), v2, _, (by first | rfl | (simp; done) | (simp [*]; done)), H', ⟨by have := HK1.out; omega⟩, HA2⟩
        · rw [if_neg c2] at H
          cases H
      · rw [if_neg c1] at H
        have c1b0 : decide ((wrap64 (d_ * d_)) ≤ n_) = false := decide_eq_false c1
        clear c1
        by_cases c3 : n_ > 1
        · rw [if_pos c3] at H
          have c3b0 : decide (1 < n_) = true := decide_eq_true c3
          clear c3
          by_cases c2 : xs_.length < 50
          · rw [if_pos c2] at H
            replace H := Option.bind_eq_some_iff.mp H
            obtain ⟨⟨n2, k2⟩, A20, H⟩ := H
            have hr := Aside0.mk (Option.some.inj H)
            clear H
            have A2 := Aside0.mk A20
            clear A20
            go_wp2_with fail
            refine (residue_factor.one q1 n_ n_ n2 k2 w.heap.size w.heap.size (w.heap.size + 1) v_ xs_ w _ A2.out (by omega) (by omega) (Nat.le_refl _) (by omega) HW.out).mono ?_
            rintro e w2 ⟨rfl, v2, hA2⟩
            rw [show (if k2 > 0 then xs_ ++ [(⟨n_, k2⟩ : S53)] else xs_) = r from hr.out] at hA2
            have hO2 := hA2.hO
            obtain ⟨Ao2, co2, eo2⟩ := Kd.R_slice hA2.hR
            subst eo2
            have HA2 := Aside0.mk hA2
            clear hA2
            go_wp2
            go_ret
            exact ⟨_, rfl, Kd.R_mono HA2.out.hR (fun _ _ => trivial), HA2.out.HB⟩
          · rw [if_neg c2] at H
            cases H
        · rw [if_neg c3] at H
          have c3b0 : decide (1 < n_) = false := decide_eq_false c3
          clear c3
          obtain rfl := Option.some.inj H
          obtain ⟨Ao2, co2, eo2⟩ := Kd.R_slice HW.out.hR
          subst eo2
          go_wp2
          go_ret
          exact ⟨_, rfl, Kd.R_mono HW.out.hR (fun _ _ => trivial), HW.out.HB⟩


/-! ### residue_prime: function 20 -/
def residue_prime.f (k : Nat) (a0 : Int) : Option (Bool) := (residue_factor.f k a0).bind fun t101 => (if (t101.length : Int) = 1 then (if 0 < (t101.length : Int) then (some (((rd_T53 t101 0).f1) == 1)) else (none)) else (some false))
theorem residue_prime.mono : ∀ a0 k, LeO (residue_prime.f k a0) (residue_prime.f (k + 1) a0) := by
  intro a0 k
  unfold residue_prime.f
  repeat' first
      | (with_reducible exact residue_factor.mono _ _)
      | (with_reducible exact LeO.refl _)
      | (with_reducible exact LeO.none _)
      | (with_reducible refine LeO.ite ?_ ?_)
      | (with_reducible refine LeO.bind ?_ (fun _ => ?_))
      | exact residue_factor.mono _ _
      | exact LeO.none _
      | refine LeO.ite ?_ ?_
      | refine LeO.bind ?_ (fun _ => ?_)
set_option maxHeartbeats 8000000 in
set_option maxRecDepth 100000 in
theorem residue_prime.calls (k : Nat) (a0 : Int) (r : Bool) (w : World) (h : residue_prime.f k a0 = some r) :
    Calls Try.prog 20 #[.int .i64 a0] w fun e w' => e = .returned (.bool r) ∧ Below w.heap.size w w' := by
  have HB := Aside0.mk (Below.refl w.heap.size w)
  have H : ((residue_factor.f k a0).bind fun t101 => (if (t101.length : Int) = 1 then (if 0 < (t101.length : Int) then (some (((rd_T53 t101 0).f1) == 1)) else (none)) else (some false))) = some r := h
  clear h
  replace H := Option.bind_eq_some_iff.mp H
  obtain ⟨t101, A20, H⟩ := H
  replace H : (if (t101.length : Int) = 1 then (if 0 < (t101.length : Int) then (some (((rd_T53 t101 0).f1) == 1)) else (none)) else (some false)) = some r := H
  have A2 := Aside0.mk A20
  clear A20
  by_cases c3 : (t101.length : Int) = 1
  · rw [if_pos c3] at H
    have c3b0 : ((t101.length : Int) == 1) = true := beq_iff_eq.mpr c3
    have c3b1 : ((t101.length : Int) != 1) = false := bne_eq_false_iff_eq.mpr c3
    clear c3
    by_cases c4 : 0 < (t101.length : Int)
    · rw [if_pos c4] at H
      have c4b0 : decide (0 < (t101.length : Int)) = true := decide_eq_true c4
      have c4b1 : decide (0 < t101.length) = true := decide_eq_true (by omega)
      clear c4
      obtain rfl := Option.some.inj H
      go_enter Try.func20, Try.ntmps20
      go_wp2_with (first | ((with_reducible refine gate_callee (f := 27) rfl ?_); refine goesL_ (some 5) rfl rfl Try.func27 (by kernel_rfl) rfl #[.int .i64 a0] rfl (by (try simp only [List.map_toArray, List.map_cons, List.map_nil]); first | done | rfl | (simp only [List.length_drop, List.length_take]; rfl)) ?_; (with_reducible refine (residue_factor.calls k a0 t101 _ A2.out).mono ?_); rintro e w5 ⟨v102, rfl, ho0, hb⟩; refine ⟨_, rfl, ?_⟩; have n0_ := Aside0.mk (Kd.R_lower ho0 (below_size (by repeat (first | (with_reducible first | exact HB.out | apply below_alloc | apply pw_below_drewN | apply below_drew1) | exact HB.out)))); have n1_ := Aside0.mk (below_step (by repeat (first | (with_reducible first | exact HB.out | apply below_alloc | apply pw_below_drewN | apply below_drew1) | exact HB.out)) hb); clear HB; have HO103 := n0_; have HB := n1_; clear n0_ n1_; (try clear hb); (try clear hb2); (try clear hk); (try clear hi); (try clear ho0); obtain ⟨Ao6, co6, eo6⟩ := Kd.R_slice HO103.out; subst eo6; have p104 : 0 ≤ (0 : Int) := (by omega); have q104 : 0 < (t101.length : Int) := of_decide_eq_true (by first | (with_reducible assumption) | assumption); obtain ⟨ad104, e104, hx104_0, hx104_1⟩ := at_T53 (Kd.R_reads' HO103.out).2.2 0 p104 q104; cases e104; have qi104 : (0 < t101.length) = True := eq_true (by omega); (try rw [show ((0 : Int)).toNat = 0 from rfl] at hx104_0); (try rw [show 0 * 2 = 0 from rfl] at hx104_0); (try rw [Addr.add_zero'] at hx104_0); (try rw [show ((0 : Int)).toNat = 0 from rfl] at hx104_1); (try rw [show 0 * 2 = 0 from rfl] at hx104_1); (try rw [Addr.add_zero'] at hx104_1); replace p104 := eq_true p104; replace q104 := eq_true q104))
      go_ret
      exact ⟨by first | rfl | (simp [errW_none, errW_some] <;> rfl) | (simp [*, errW_none, errW_some] <;> rfl), by repeat (first | (with_reducible first | exact HB.out | apply below_alloc | apply pw_below_drewN | apply below_drew1) | exact HB.out)⟩
    · rw [if_neg c4] at H
      exact absurd H (by simp)
  · rw [if_neg c3] at H
    have c3b0 : ((t101.length : Int) == 1) = false := beq_eq_false_iff_ne.mpr c3
    have c3b1 : ((t101.length : Int) != 1) = true := bne_iff_ne.mpr c3
    obtain rfl := Option.some.inj H
    go_enter Try.func20, Try.ntmps20
    go_wp2_with (first | ((with_reducible refine gate_callee (f := 27) rfl ?_); refine goesL_ (some 5) rfl rfl Try.func27 (by kernel_rfl) rfl #[.int .i64 a0] rfl (by (try simp only [List.map_toArray, List.map_cons, List.map_nil]); first | done | rfl | (simp only [List.length_drop, List.length_take]; rfl)) ?_; (with_reducible refine (residue_factor.calls k a0 t101 _ A2.out).mono ?_); rintro e w7 ⟨v102, rfl, ho0, hb⟩; refine ⟨_, rfl, ?_⟩; have n0_ := Aside0.mk (Kd.R_lower ho0 (below_size (by repeat (first | (with_reducible first | exact HB.out | apply below_alloc | apply pw_below_drewN | apply below_drew1) | exact HB.out)))); have n1_ := Aside0.mk (below_step (by repeat (first | (with_reducible first | exact HB.out | apply below_alloc | apply pw_below_drewN | apply below_drew1) | exact HB.out)) hb); clear HB; have HO103 := n0_; have HB := n1_; clear n0_ n1_; (try clear hb); (try clear hb2); (try clear hk); (try clear hi); (try clear ho0); obtain ⟨Ao8, co8, eo8⟩ := Kd.R_slice HO103.out; subst eo8))
    go_ret
    exact ⟨by first | rfl | (simp [errW_none, errW_some] <;> rfl) | (simp [*, errW_none, errW_some] <;> rfl), by repeat (first | (with_reducible first | exact HB.out | apply below_alloc | apply pw_below_drewN | apply below_drew1) | exact HB.out)⟩

/-! ### residue_IsPrime: function 44 -/
def residue_IsPrime.f (k : Nat) (a0 : Int) : Option (Bool × Int) := (residue_bad.f k (([a0] : List Int))).bind fun t108 => (if t108 = true then (some (false, 3)) else ((residue_prime.f k a0).bind fun t109 => (some (t109, 0))))
theorem residue_IsPrime.mono : ∀ a0 k, LeO (residue_IsPrime.f k a0) (residue_IsPrime.f (k + 1) a0) := by
  intro a0 k
  unfold residue_IsPrime.f
  repeat' first
      | (with_reducible exact residue_bad.mono _ _)
      | (with_reducible exact residue_prime.mono _ _)
      | (with_reducible exact LeO.refl _)
      | (with_reducible exact LeO.none _)
      | (with_reducible refine LeO.ite ?_ ?_)
      | (with_reducible refine LeO.bind ?_ (fun _ => ?_))
      | exact residue_bad.mono _ _
      | exact residue_prime.mono _ _
      | exact LeO.none _
      | refine LeO.ite ?_ ?_
      | refine LeO.bind ?_ (fun _ => ?_)
set_option maxHeartbeats 8000000 in
set_option maxRecDepth 100000 in
theorem residue_IsPrime.calls (k : Nat) (a0 : Int) (r1 : Bool) (r2 : Int) (w : World) (h : residue_IsPrime.f k a0 = some (r1, r2)) :
    Calls Try.prog 44 #[.int .i64 a0] w fun e w' => e = .returned (.tuple #[.bool r1, .int .i64 r2]) ∧ Below w.heap.size w w' := by
  have HB := Aside0.mk (Below.refl w.heap.size w)
  have H : ((residue_bad.f k (([a0] : List Int))).bind fun t108 => (if t108 = true then (some (false, 3)) else ((residue_prime.f k a0).bind fun t109 => (some (t109, 0))))) = some (r1, r2) := h
  clear h
  obtain ⟨y105, hy105⟩ : ∃ y_ : List Int, y_ = (([a0] : List Int)) := ⟨_, rfl⟩
  replace H : ((residue_bad.f k y105).bind fun t108 => (if t108 = true then (some (false, 3)) else ((residue_prime.f k a0).bind fun t109 => (some (t109, 0))))) = some (r1, r2) := by first | (rw [hy105]; with_reducible exact H) | (have H2_ := (Option.bind_some _ _).symm.trans H; rw [hy105]; with_reducible exact H2_) | (have H2_ := (Option.bind_some _ _).symm.trans H; with_reducible exact H2_) | with_reducible exact H | (rw [hy105]; exact H) | exact H
  have Ny105 := Aside0.mk hy105
  clear hy105
  replace H := Option.bind_eq_some_iff.mp H
  obtain ⟨t108, A20, H⟩ := H
  replace H : (if t108 = true then (some (false, 3)) else ((residue_prime.f k a0).bind fun t109 => (some (t109, 0)))) = some (r1, r2) := H
  have A2 := Aside0.mk A20
  clear A20
  by_cases c3 : t108 = true
  · subst c3
    have H1 : (some (false, 3)) = some (r1, r2) := by rw [if_pos rfl] at H; exact H
    clear H
    have H := H1
    clear H1
    simp only [Option.some.injEq, Prod.mk.injEq] at H
    obtain ⟨rfl, rfl⟩ := H
    go_enter Try.func44, Try.ntmps44
    go_wp2_with (first | ((with_reducible refine gate_dst (N := 5) rfl ?_); refine Kd.R_lit (Kd.int .i64) _ 3 ?hg (N := 5) ?hd (xs := ([a0] : List Int)) (inner := [.int .i64 a0]) (ok := fun _ => True) (okp := fun _ => True) ?hr ?hp (fun _ hk => hk) trivial (Below.refl _ _) (Nat.le_refl _) (by simp) ?_; (case hd => rfl); (case hg => rfl); (case hr => first | (go_simp; done) | (go_simp; rfl)); (case hp => exact (Reps.one (show Kd.M (Kd.int .i64) _ _ _ a0 [.int .i64 a0] from rfl) (Reps.none _ _))); intro v106 w4 ho5 hb hg_ hnew_; clear hg_ hnew_; (first | rw [← Ny105.out] at ho5 | (simp only [Int.reduceToNat] at ho5; rw [← Ny105.out] at ho5)); have n0_ := Aside0.mk (Kd.R_lower ho5 (below_size (by repeat (first | (with_reducible first | exact HB.out | apply below_alloc | apply pw_below_drewN | apply below_drew1) | exact HB.out)))); have n1_ := Aside0.mk (below_step (by repeat (first | (with_reducible first | exact HB.out | apply below_alloc | apply pw_below_drewN | apply below_drew1) | exact HB.out)) hb); clear HB; have HO107 := n0_; have HB := n1_; clear n0_ n1_; clear hb ho5; obtain ⟨Ao6, co6, eo6⟩ := Kd.R_slice HO107.out; subst eo6) | ((with_reducible refine gate_callee (f := 19) rfl ?_); refine goesL_ (some 6) rfl rfl Try.func19 (by kernel_rfl) rfl #[.slice Ao6 y105.length co6] rfl (by (try simp only [List.map_toArray, List.map_cons, List.map_nil]); first | done | rfl | (simp only [List.length_drop, List.length_take]; rfl)) ?_; (with_reducible refine (residue_bad.calls k _ _ y105 true _ ?side1 ?side2 A2.out).mono ?_); (case side1 => repeat (first | exact (Kd.R_reads' HO107.out).2.2 | (with_reducible refine Kd.C_alloc ?_ _) | (with_reducible refine Kd.C_drewN ?_ _) | (with_reducible refine Kd.C_drew ?_))); (case side2 => exact (Kd.R_reads' HO107.out).2.1); rintro e w' ⟨rfl, ⟨nd, rfl⟩⟩; refine ⟨_, rfl, ?_⟩))
    go_ret2
    exact ⟨by first | rfl | (simp [errW_none, errW_some] <;> rfl) | (simp [*, errW_none, errW_some] <;> rfl), by repeat (first | (with_reducible first | exact HB.out | apply below_alloc | apply pw_below_drewN | apply below_drew1) | exact HB.out)⟩
  · replace c3 := Bool.eq_false_iff.mpr c3
    subst c3
    have H1 : ((residue_prime.f k a0).bind fun t109 => (some (t109, 0))) = some (r1, r2) := by rw [if_neg (show ¬ (false = true) by decide)] at H; exact H
    clear H
    have H := H1
    clear H1
    replace H := Option.bind_eq_some_iff.mp H
    obtain ⟨t109, A70, H⟩ := H
    replace H : (some (t109, 0)) = some (r1, r2) := H
    have A7 := Aside0.mk A70
    clear A70
    simp only [Option.some.injEq, Prod.mk.injEq] at H
    obtain ⟨rfl, rfl⟩ := H
    go_enter Try.func44, Try.ntmps44
    go_wp2_with (first | ((with_reducible refine gate_dst (N := 5) rfl ?_); refine Kd.R_lit (Kd.int .i64) _ 3 ?hg (N := 5) ?hd (xs := ([a0] : List Int)) (inner := [.int .i64 a0]) (ok := fun _ => True) (okp := fun _ => True) ?hr ?hp (fun _ hk => hk) trivial (Below.refl _ _) (Nat.le_refl _) (by simp) ?_; (case hd => rfl); (case hg => rfl); (case hr => first | (go_simp; done) | (go_simp; rfl)); (case hp => exact (Reps.one (show Kd.M (Kd.int .i64) _ _ _ a0 [.int .i64 a0] from rfl) (Reps.none _ _))); intro v106 w8 ho9 hb hg_ hnew_; clear hg_ hnew_; (first | rw [← Ny105.out] at ho9 | (simp only [Int.reduceToNat] at ho9; rw [← Ny105.out] at ho9)); have n0_ := Aside0.mk (Kd.R_lower ho9 (below_size (by repeat (first | (with_reducible first | exact HB.out | apply below_alloc | apply pw_below_drewN | apply below_drew1) | exact HB.out)))); have n1_ := Aside0.mk (below_step (by repeat (first | (with_reducible first | exact HB.out | apply below_alloc | apply pw_below_drewN | apply below_drew1) | exact HB.out)) hb); clear HB; have HO107 := n0_; have HB := n1_; clear n0_ n1_; clear hb ho9; obtain ⟨Ao10, co10, eo10⟩ := Kd.R_slice HO107.out; subst eo10) | ((with_reducible refine gate_callee (f := 19) rfl ?_); refine goesL_ (some 6) rfl rfl Try.func19 (by kernel_rfl) rfl #[.slice Ao10 y105.length co10] rfl (by (try simp only [List.map_toArray, List.map_cons, List.map_nil]); first | done | rfl | (simp only [List.length_drop, List.length_take]; rfl)) ?_; (with_reducible refine (residue_bad.calls k _ _ y105 false _ ?side1 ?side2 A2.out).mono ?_); (case side1 => repeat (first | exact (Kd.R_reads' HO107.out).2.2 | (with_reducible refine Kd.C_alloc ?_ _) | (with_reducible refine Kd.C_drewN ?_ _) | (with_reducible refine Kd.C_drew ?_))); (case side2 => exact (Kd.R_reads' HO107.out).2.1); rintro e w' ⟨rfl, ⟨nd, rfl⟩⟩; refine ⟨_, rfl, ?_⟩) | ((with_reducible refine gate_callee (f := 20) rfl ?_); refine goesL_ (some 8) rfl rfl Try.func20 (by kernel_rfl) rfl #[.int .i64 a0] rfl (by (try simp only [List.map_toArray, List.map_cons, List.map_nil]); first | done | rfl | (simp only [List.length_drop, List.length_take]; rfl)) ?_; (with_reducible refine (residue_prime.calls k a0 t109 _ A7.out).mono ?_); rintro e w11 ⟨rfl, hb⟩; refine ⟨_, rfl, ?_⟩; have n0_ := Aside0.mk (Kd.R_below (by (with_reducible repeat (first | apply Kd.R_alloc | apply Kd.R_drewN | apply Kd.R_drew)); exact HO107.out) hb); have n1_ := Aside0.mk (below_step (by repeat (first | (with_reducible first | exact HB.out | apply below_alloc | apply pw_below_drewN | apply below_drew1) | exact HB.out)) hb); clear HO107; clear HB; have HO107 := n0_; have HB := n1_; clear n0_ n1_; (try clear hb); (try clear hb2); (try clear hk); (try clear hi)))
    go_ret2
    exact ⟨by first | rfl | (simp [errW_none, errW_some] <;> rfl) | (simp [*, errW_none, errW_some] <;> rfl), by repeat (first | (with_reducible first | exact HB.out | apply below_alloc | apply pw_below_drewN | apply below_drew1) | exact HB.out)⟩

/-! ### reciprocity_check: function 29 -/
mutual
def reciprocity_check.l0 : Nat → List Int → Int → Int → Option (Int)
  | 0, _, _, _ => none
  | k + 1, x7, x8, x9 => if x9 < x8 then (if 0 ≤ x9 then (if x9 < (x7.length : Int) then (if (rd x7 x9) < 3 then (reciprocity_check.j1 k (rd x7 x9) x7 x8 x9 true) else (reciprocity_check.j1 k (rd x7 x9) x7 x8 x9 (decide ((rd x7 x9) > 65521)))) else (none)) else (none)) else (some 0)
def reciprocity_check.j1 : Nat → Int → List Int → Int → Int → Bool → Option (Int)
  | 0, _, _, _, _, _ => none
  | k + 1, x4, x7, x8, x9, x18 => if x18 = true then (some 7) else ((residue_IsPrime.f k x4).bind fun bt111 => (if bt111.2 = 0 then (if bt111.1 = true then (reciprocity_check.l0 k x7 x8 (wrap64 (x9 + 1))) else (some 7)) else (some 7)))
end
def reciprocity_check.f (k : Nat) (l0 : List Int) : Option (Int) := reciprocity_check.l0 k l0 (l0.length : Int) 0
theorem reciprocity_check.mono_l : ∀ k, (∀ y0 y1 y2, LeO (reciprocity_check.l0 k y0 y1 y2) (reciprocity_check.l0 (k + 1) y0 y1 y2)) ∧ (∀ y0 y1 y2 y3 y4, LeO (reciprocity_check.j1 k y0 y1 y2 y3 y4) (reciprocity_check.j1 (k + 1) y0 y1 y2 y3 y4))
  | 0 => ⟨fun _ _ _ r h => by simp [reciprocity_check.l0] at h, fun _ _ _ _ _ r h => by simp [reciprocity_check.j1] at h⟩
  | k + 1 => by
    obtain ⟨ih0, ih1⟩ := reciprocity_check.mono_l k
    refine ⟨?_, ?_⟩
    · intro y0 y1 y2
      unfold reciprocity_check.l0
      repeat' first
      | (with_reducible exact ih0 _ _ _)
      | (with_reducible exact ih1 _ _ _ _ _)
      | (with_reducible exact residue_IsPrime.mono _ _)
      | (with_reducible exact LeO.refl _)
      | (with_reducible exact LeO.none _)
      | (with_reducible refine LeO.ite ?_ ?_)
      | (with_reducible refine LeO.bind ?_ (fun _ => ?_))
      | exact ih0 _ _ _
      | exact ih1 _ _ _ _ _
      | exact residue_IsPrime.mono _ _
      | exact LeO.none _
      | refine LeO.ite ?_ ?_
      | refine LeO.bind ?_ (fun _ => ?_)
    · intro y0 y1 y2 y3 y4
      unfold reciprocity_check.j1
      repeat' first
      | (with_reducible exact ih0 _ _ _)
      | (with_reducible exact ih1 _ _ _ _ _)
      | (with_reducible exact residue_IsPrime.mono _ _)
      | (with_reducible exact LeO.refl _)
      | (with_reducible exact LeO.none _)
      | (with_reducible refine LeO.ite ?_ ?_)
      | (with_reducible refine LeO.bind ?_ (fun _ => ?_))
      | exact ih0 _ _ _
      | exact ih1 _ _ _ _ _
      | exact residue_IsPrime.mono _ _
      | exact LeO.none _
      | refine LeO.ite ?_ ?_
      | refine LeO.bind ?_ (fun _ => ?_)
theorem reciprocity_check.mono : ∀ a0 k, LeO (reciprocity_check.f k a0) (reciprocity_check.f (k + 1) a0) := by
  intro a0 k
  obtain ⟨ih0, ih1⟩ := reciprocity_check.mono_l k
  unfold reciprocity_check.f
  repeat' first
      | (with_reducible exact ih0 _ _ _)
      | (with_reducible exact ih1 _ _ _ _ _)
      | (with_reducible exact residue_IsPrime.mono _ _)
      | (with_reducible exact LeO.refl _)
      | (with_reducible exact LeO.none _)
      | (with_reducible refine LeO.ite ?_ ?_)
      | (with_reducible refine LeO.bind ?_ (fun _ => ?_))
      | exact ih0 _ _ _
      | exact ih1 _ _ _ _ _
      | exact residue_IsPrime.mono _ _
      | exact LeO.none _
      | refine LeO.ite ?_ ?_
      | refine LeO.bind ?_ (fun _ => ?_)
set_option maxHeartbeats 8000000 in
set_option maxRecDepth 100000 in
theorem reciprocity_check.calls (k : Nat) (A0 : Option Addr) (c0 : Nat) (l0 : List Int) (r : Int) (w : World) (hr0 : Kd.C (Kd.int .i64) w A0 l0.length l0) (hc0 : l0.length ≤ c0) (h : reciprocity_check.f k l0 = some r) :
    Calls Try.prog 29 #[.slice A0 l0.length c0] w fun e w' => e = .returned (.int .i64 r) ∧ Below w.heap.size w w' := by
  have HR0 := Aside0.mk hr0
  have HC0 := Aside0.mk hc0
  clear hr0 hc0
  have HB := Aside0.mk (Below.refl w.heap.size w)
  have H : (reciprocity_check.l0 k l0 (l0.length : Int) 0) = some r := h
  clear h
  have H' := Aside0.mk H
  clear H
  go_enter Try.func29, Try.ntmps29
  go_wp2
  go_loopg [9] k (fun kq v9 w' => ∃ (x9_1 : Int), v9 = .int .i64 x9_1 ∧ Aside0 (reciprocity_check.l0 kq l0 (l0.length : Int) x9_1 = some r) ∧ Aside0 (kq ≤ k) ∧ Aside0 (Below w.heap.size w w'))
  case atStart => exact ⟨(0), (by first | rfl | (simp; done) | (simp [*]; done)), H', ⟨Nat.le_refl _⟩, ⟨by repeat (first | (with_reducible first | exact HB.out | apply below_alloc | apply pw_below_drewN | apply below_drew1) | exact HB.out)⟩⟩
  case round =>
    clear H'
    obtain ⟨x9_1, rfl, HA, HK1, HB⟩ := hrel
    cases gk with
    | zero => exact absurd HA.out (by simp [reciprocity_check.l0])
    | succ k1 =>
      have H := HA.out
      clear HA
      simp only [reciprocity_check.l0] at H
      by_cases c2 : x9_1 < (l0.length : Int)
      · rw [if_pos c2] at H
        have c2b0 : decide (x9_1 < (l0.length : Int)) = true := decide_eq_true c2
        clear c2
        by_cases c3 : 0 ≤ x9_1
        · rw [if_pos c3] at H
          have c3b0 : decide (0 ≤ x9_1) = true := decide_eq_true c3
          clear c3
          by_cases c4 : x9_1 < (l0.length : Int)
          · rw [if_pos c4] at H
            have c4b0 : decide (x9_1 < (l0.length : Int)) = true := decide_eq_true c4
            clear c4
            have HC5 := Aside0.mk H
            clear H
            have p110 : 0 ≤ (x9_1 : Int) := of_decide_eq_true (by first | (with_reducible assumption) | assumption)
            have q110 : x9_1 < (l0.length : Int) := of_decide_eq_true (by first | (with_reducible assumption) | assumption)
            obtain ⟨ad110, e110, hx110_0⟩ := Kd.at_int HR0.out x9_1 p110 q110
            cases e110
            try (replace hx110_0 := (HB.out.cell (World.block_lt_of_cell? w _ hx110_0)).trans hx110_0)
            replace p110 := eq_true p110
            replace q110 := eq_true q110
            go_upto_region 4 with (fail)
            go_cut [18] (fun v18 wc => ∃ (kq : Nat) (x18_4 : Bool), v18 = .bool x18_4 ∧ Aside0 (reciprocity_check.j1 kq (rd l0 x9_1) l0 (l0.length : Int) x9_1 x18_4 = some r) ∧ Aside0 (kq ≤ k1) ∧ Aside0 (Below w.heap.size w wc))
            case first =>
              have H := HC5.out
              clear HC5
              by_cases c6 : (rd l0 x9_1) < 3
              · rw [if_pos c6] at H
                have c6b0 : decide ((rd l0 x9_1) < 3) = true := decide_eq_true c6
                clear c6
                (first | rw [c6b0] | (simp only [i64_w, i32_w]; rw [c6b0]) | skip)
                have H' := Aside0.mk H
                clear H
                go_wp2
                go_meet
                case rel => exact ⟨_, (true), (by first | rfl | (simp; done) | (simp [*]; done)), H', ⟨by have := HK1.out; first | omega | exact Nat.le_refl _⟩, ⟨by repeat (first | (with_reducible first | exact HB.out | apply below_alloc | apply pw_below_drewN | apply below_drew1) | exact HB.out)⟩⟩
              · rw [if_neg c6] at H
                have c6b0 : decide ((rd l0 x9_1) < 3) = false := decide_eq_false c6
                clear c6
                (first | rw [c6b0] | (simp only [i64_w, i32_w]; rw [c6b0]) | skip)
                have H' := Aside0.mk H
                clear H
                go_wp2
                go_meet
                case rel => exact ⟨_, (decide ((rd l0 x9_1) > 65521)), (by first | rfl | (simp; done) | (simp [*]; done)), H', ⟨by have := HK1.out; first | omega | exact Nat.le_refl _⟩, ⟨by repeat (first | (with_reducible first | exact HB.out | apply below_alloc | apply pw_below_drewN | apply below_drew1) | exact HB.out)⟩⟩
            case rest =>
              clear HC5
              try clear p1
              try clear q1
              try clear hx1
              try clear c2
              try clear c2b0
              try clear p2
              try clear c3
              try clear c3b0
              try clear c4
              try clear c4b0
              try clear c6
              try clear c6b0
              try clear hx110_0
              try clear p110
              try clear q110
              obtain ⟨kq, x18_4, rfl, HA, HJ4, HB⟩ := hcut
              cases kq with
              | zero => exact absurd HA.out (by simp [reciprocity_check.j1])
              | succ kj4 =>
                have H := HA.out
                clear HA
                simp only [reciprocity_check.j1] at H
                by_cases c7 : x18_4 = true
                · subst c7
                  have H1 : (some 7) = some r := by rw [if_pos rfl] at H; exact H
                  clear H
                  have H := H1
                  clear H1
                  obtain rfl := Option.some.inj H
                  go_wp2
                  go_ret
                  exact ⟨by first | rfl | (simp [errW_none, errW_some] <;> rfl) | (simp [*, errW_none, errW_some] <;> rfl), by repeat (first | (with_reducible first | exact HB.out | apply below_alloc | apply pw_below_drewN | apply below_drew1) | exact HB.out)⟩
                · replace c7 := Bool.eq_false_iff.mpr c7
                  subst c7
                  have H1 : ((residue_IsPrime.f kj4 (rd l0 x9_1)).bind fun bt111 => (if bt111.2 = 0 then (if bt111.1 = true then (reciprocity_check.l0 kj4 l0 (l0.length : Int) (wrap64 (x9_1 + 1))) else (some 7)) else (some 7))) = some r := by rw [if_neg (show ¬ (false = true) by decide)] at H; exact H
                  clear H
                  have H := H1
                  clear H1
                  replace H := Option.bind_eq_some_iff.mp H
                  obtain ⟨⟨t111, t112⟩, A80, H⟩ := H
                  replace H : (if t112 = 0 then (if t111 = true then (reciprocity_check.l0 kj4 l0 (l0.length : Int) (wrap64 (x9_1 + 1))) else (some 7)) else (some 7)) = some r := H
                  have A8 := Aside0.mk A80
                  clear A80
                  by_cases c9 : t112 = 0
                  · rw [if_pos c9] at H
                    have c9b0 : (t112 == 0) = true := beq_iff_eq.mpr c9
                    have c9b1 : (t112 != 0) = false := bne_eq_false_iff_eq.mpr c9
                    clear c9
                    by_cases c10 : t111 = true
                    · subst c10
                      have H1 : (reciprocity_check.l0 kj4 l0 (l0.length : Int) (wrap64 (x9_1 + 1))) = some r := by rw [if_pos rfl] at H; exact H
                      clear H
                      have H := H1
                      clear H1
                      have H' := Aside0.mk H
                      clear H
                      go_wp2_with (first | ((with_reducible refine gate_callee (f := 44) rfl ?_); refine goesL_ (some 21) rfl rfl Try.func44 (by kernel_rfl) rfl #[.int .i64 (rd l0 x9_1)] rfl (by (try simp only [List.map_toArray, List.map_cons, List.map_nil]); first | done | rfl | (simp only [List.length_drop, List.length_take]; rfl)) ?_; (with_reducible refine (residue_IsPrime.calls kj4 (rd l0 x9_1) true t112 _ A8.out).mono ?_); rintro e w11 ⟨rfl, hb⟩; refine ⟨_, rfl, ?_⟩; have n0_ := Aside0.mk (below_step (by repeat (first | (with_reducible first | exact HB.out | apply below_alloc | apply pw_below_drewN | apply below_drew1) | exact HB.out)) hb); clear HB; have HB := n0_; clear n0_; (try clear hb); (try clear hb2); (try clear hk); (try clear hi)))
                      go_roundg kj4
                      case measure => have := HK1.out; have := HJ4.out; omega
                      case rel => exact ⟨(wrap64 (x9_1 + 1)), (by first | rfl | (simp; done) | (simp [*]; done)), H', ⟨by have := HK1.out; have := HJ4.out; omega⟩, ⟨by repeat (first | (with_reducible first | exact HB.out | apply below_alloc | apply pw_below_drewN | apply below_drew1) | exact HB.out)⟩⟩
                    · replace c10 := Bool.eq_false_iff.mpr c10
                      subst c10
                      have H1 : (some 7) = some r := by rw [if_neg (show ¬ (false = true) by decide)] at H; exact H
                      clear H
                      have H := H1
                      clear H1
                      obtain rfl := Option.some.inj H
                      go_wp2_with (first | ((with_reducible refine gate_callee (f := 44) rfl ?_); refine goesL_ (some 21) rfl rfl Try.func44 (by kernel_rfl) rfl #[.int .i64 (rd l0 x9_1)] rfl (by (try simp only [List.map_toArray, List.map_cons, List.map_nil]); first | done | rfl | (simp only [List.length_drop, List.length_take]; rfl)) ?_; (with_reducible refine (residue_IsPrime.calls kj4 (rd l0 x9_1) false t112 _ A8.out).mono ?_); rintro e w12 ⟨rfl, hb⟩; refine ⟨_, rfl, ?_⟩; have n0_ := Aside0.mk (below_step (by repeat (first | (with_reducible first | exact HB.out | apply below_alloc | apply pw_below_drewN | apply below_drew1) | exact HB.out)) hb); clear HB; have HB := n0_; clear n0_; (try clear hb); (try clear hb2); (try clear hk); (try clear hi)))
                      go_ret
                      exact ⟨by first | rfl | (simp [errW_none, errW_some] <;> rfl) | (simp [*, errW_none, errW_some] <;> rfl), by repeat (first | (with_reducible first | exact HB.out | apply below_alloc | apply pw_below_drewN | apply below_drew1) | exact HB.out)⟩
                  · rw [if_neg c9] at H
                    have c9b0 : (t112 == 0) = false := beq_eq_false_iff_ne.mpr c9
                    have c9b1 : (t112 != 0) = true := bne_iff_ne.mpr c9
                    obtain rfl := Option.some.inj H
                    go_wp2_with (first | ((with_reducible refine gate_callee (f := 44) rfl ?_); refine goesL_ (some 21) rfl rfl Try.func44 (by kernel_rfl) rfl #[.int .i64 (rd l0 x9_1)] rfl (by (try simp only [List.map_toArray, List.map_cons, List.map_nil]); first | done | rfl | (simp only [List.length_drop, List.length_take]; rfl)) ?_; (with_reducible refine (residue_IsPrime.calls kj4 (rd l0 x9_1) t111 t112 _ A8.out).mono ?_); rintro e w13 ⟨rfl, hb⟩; refine ⟨_, rfl, ?_⟩; have n0_ := Aside0.mk (below_step (by repeat (first | (with_reducible first | exact HB.out | apply below_alloc | apply pw_below_drewN | apply below_drew1) | exact HB.out)) hb); clear HB; have HB := n0_; clear n0_; (try clear hb); (try clear hb2); (try clear hk); (try clear hi)))
                    go_ret
                    exact ⟨by first | rfl | (simp [errW_none, errW_some] <;> rfl) | (simp [*, errW_none, errW_some] <;> rfl), by repeat (first | (with_reducible first | exact HB.out | apply below_alloc | apply pw_below_drewN | apply below_drew1) | exact HB.out)⟩
          · rw [if_neg c4] at H
            exact absurd H (by simp)
        · rw [if_neg c3] at H
          exact absurd H (by simp)
      · rw [if_neg c2] at H
        have c2b0 : decide (x9_1 < (l0.length : Int)) = false := decide_eq_false c2
        clear c2
        obtain rfl := Option.some.inj H
        go_wp2
        go_ret
        exact ⟨by first | rfl | (simp [errW_none, errW_some] <;> rfl) | (simp [*, errW_none, errW_some] <;> rfl), by repeat (first | (with_reducible first | exact HB.out | apply below_alloc | apply pw_below_drewN | apply below_drew1) | exact HB.out)⟩

-- NOT PRINTED: function 30 (reciprocity_euler)

/-! ### exact_Whole: function 46 -/
def exact_Whole.f (a0_0 : Bool) (a0_1 : ByteArray) : Option (Bool × ByteArray × ByteArray) := some (a0_0, a0_1, (⟨#[1]⟩ : ByteArray))
set_option maxHeartbeats 8000000 in
set_option maxRecDepth 100000 in
theorem exact_Whole.calls (a0_0 : Bool) (a0_1 : ByteArray) (r1 : Bool) (r2 : ByteArray) (r3 : ByteArray) (w : World) (h : exact_Whole.f a0_0 a0_1 = some (r1, r2, r3)) :
    Calls Try.prog 46 #[.agg #[.bool a0_0, .string a0_1]] w fun e w' => e = .returned (.agg #[.bool r1, .string r2, .string r3]) ∧ Below w.heap.size w w' := by
  have hu58 := Try.underlying58
  have hu60 := Try.underlying60
  have HB := Aside0.mk (Below.refl w.heap.size w)
  have H : (some (a0_0, a0_1, (⟨#[1]⟩ : ByteArray))) = some (r1, r2, r3) := h
  clear h
  simp only [Option.some.injEq, Prod.mk.injEq] at H
  obtain ⟨rfl, rfl, rfl⟩ := H
  go_enter Try.func46, Try.ntmps46
  go_wp2_with (first | ((with_reducible refine gate_dst (N := 1) rfl ?_); refine box_event ?hg (N := 1) ?hd (cs := #[.bool a0_0, .string a0_1]) (t := 58) ?hr ?_; (case hd => rfl); (case hg => rfl); (case hr => first | (go_simp; done) | (go_simp; rfl)); intro gb113 hg w2 hbox hb; have n0_ := Aside0.mk (below_step (by repeat (first | (with_reducible first | exact HB.out | apply below_alloc | apply pw_below_drewN | apply below_drew1) | exact HB.out)) hb); have n1_ := Aside0.mk (hbox); have n2_ := Aside0.mk ((by rw [hg]; exact (below_size (by repeat (first | (with_reducible first | exact HB.out | apply below_alloc | apply pw_below_drewN | apply below_drew1) | exact HB.out))) : w.heap.size ≤ gb113)); have n3_ := Aside0.mk ((by rw [hg]; exact (below_size (by repeat (first | (with_reducible first | exact HB.out | apply below_alloc | apply pw_below_drewN | apply below_drew1) | exact HB.out))) : w.heap.size ≤ gb113)); clear HB; have HB := n0_; have BK113 := n1_; have GW113 := n2_; have GE113 := n3_; clear n0_ n1_ n2_ n3_; clear hb hbox hg) | ((with_reducible refine gate_dst (N := 2) rfl ?_); refine box_event ?hg (N := 2) ?hd (cs := #[.bool false, .string (⟨#[]⟩ : ByteArray), .string (⟨#[]⟩ : ByteArray)]) (t := 60) ?hr ?_; (case hd => rfl); (case hg => rfl); (case hr => first | (go_simp; done) | (go_simp; rfl)); intro gb114 hg w3 hbox hb; have n0_ := Aside0.mk (blk_below (g := gb113) (o := .cells #[.bool a0_0, .string a0_1] 58 (0, 0)) (by (with_reducible repeat (first | refine blk_drewN ?_ _ | refine blk_drew ?_ | refine blk_alloc ?_ _)); exact BK113.out) hb); have n1_ := Aside0.mk (below_step (by repeat (first | (with_reducible first | exact HB.out | apply below_alloc | apply pw_below_drewN | apply below_drew1 | refine below_set ?_ GE113.out) | exact HB.out)) hb); have n2_ := Aside0.mk (hbox); have n3_ := Aside0.mk ((by rw [hg]; exact (below_size (by repeat (first | (with_reducible first | exact HB.out | apply below_alloc | apply pw_below_drewN | apply below_drew1 | refine below_set ?_ GE113.out) | exact HB.out))) : w.heap.size ≤ gb114)); have n4_ := Aside0.mk ((by rw [hg]; exact (below_size (by repeat (first | (with_reducible first | exact HB.out | apply below_alloc | apply pw_below_drewN | apply below_drew1 | refine below_set ?_ GE113.out) | exact HB.out))) : w.heap.size ≤ gb114)); have n5_ := Aside0.mk ((by rw [hg]; exact Nat.ne_of_lt (blk_lt (g := gb113) (o := .cells #[.bool a0_0, .string a0_1] 58 (0, 0)) (by (with_reducible repeat (first | refine blk_drewN ?_ _ | refine blk_drew ?_ | refine blk_alloc ?_ _)); exact BK113.out)) : gb113 ≠ gb114)); have n6_ := Aside0.mk ((by rw [hg]; exact Nat.ne_of_gt (blk_lt (g := gb113) (o := .cells #[.bool a0_0, .string a0_1] 58 (0, 0)) (by (with_reducible repeat (first | refine blk_drewN ?_ _ | refine blk_drew ?_ | refine blk_alloc ?_ _)); exact BK113.out)) : gb114 ≠ gb113)); clear BK113; clear HB; have BK113 := n0_; have HB := n1_; have BK114 := n2_; have GW114 := n3_; have GE114 := n4_; have NB113_114 := n5_; have NB114_113 := n6_; clear n0_ n1_ n2_ n3_ n4_ n5_ n6_; clear hb hbox hg; have hnb4 := NB113_114.out; have hnc4 := NB114_113.out; have hcz5_0 : w3.cell? ⟨gb113, 0, none⟩ = some (.bool a0_0) := (blk_cell BK113.out 0).trans rfl; have hcz5_1 : w3.cell? ⟨gb113, 1, none⟩ = some (.string a0_1) := (blk_cell BK113.out 1).trans rfl; have hfz5_0 := blk_frozen BK113.out 0; have hfz5_1 := blk_frozen BK113.out 1; have hcz6_0 : w3.cell? ⟨gb114, 0, none⟩ = some (.bool false) := (blk_cell BK114.out 0).trans rfl; have hcz6_1 : w3.cell? ⟨gb114, 1, none⟩ = some (.string (⟨#[]⟩ : ByteArray)) := (blk_cell BK114.out 1).trans rfl; have hcz6_2 : w3.cell? ⟨gb114, 2, none⟩ = some (.string (⟨#[]⟩ : ByteArray)) := (blk_cell BK114.out 2).trans rfl; have hfz6_0 := blk_frozen BK114.out 0; have hfz6_1 := blk_frozen BK114.out 1; have hfz6_2 := blk_frozen BK114.out 2))
  refine bodyPost_ret (results_cell_row rfl _ _ gb114 60 #[.bool a0_0, .string a0_1, .string (⟨#[1]⟩ : ByteArray)] (0, 0) _ rfl (by (with_reducible repeat (first | refine blk_drewN ?_ _ | refine blk_drew ?_ | refine blk_alloc ?_ _)); refine blk_put (cs := #[.bool a0_0, .string a0_1, .string (⟨#[]⟩ : ByteArray)]) ?_ 2 _ rfl; (with_reducible repeat (first | refine blk_drewN ?_ _ | refine blk_drew ?_ | refine blk_alloc ?_ _)); refine blk_put (cs := #[.bool a0_0, .string (⟨#[]⟩ : ByteArray), .string (⟨#[]⟩ : ByteArray)]) ?_ 1 _ rfl; (with_reducible repeat (first | refine blk_drewN ?_ _ | refine blk_drew ?_ | refine blk_alloc ?_ _)); refine blk_put (cs := #[.bool false, .string (⟨#[]⟩ : ByteArray), .string (⟨#[]⟩ : ByteArray)]) ?_ 0 _ rfl; (with_reducible repeat (first | refine blk_drewN ?_ _ | refine blk_drew ?_ | refine blk_alloc ?_ _)); exact BK114.out) Try.underlying60 rfl (by kernel_rfl)) rfl ?_
  exact ⟨by first | rfl | (simp [errW_none, errW_some] <;> rfl) | (simp [*, errW_none, errW_some] <;> rfl), by repeat (first | (with_reducible first | exact HB.out | apply below_alloc | apply pw_below_drewN | apply below_drew1 | refine below_set ?_ GE113.out | refine below_set ?_ GE114.out) | exact HB.out)⟩

/-! ### exact_trim: function 58 -/
def exact_trim.l0 : Nat → List Int → Int → Option (List Int)
  | 0, _, _ => none
  | k + 1, x0, x3 => if x3 > 0 then (if 0 ≤ (wrap64 (x3 - 1)) then (if (wrap64 (x3 - 1)) < (x0.length : Int) then (if (rd x0 (wrap64 (x3 - 1))) = 0 then (exact_trim.l0 k x0 (wrap64 (x3 - 1))) else (if 0 ≤ x3 then (if x3 ≤ (x0.length : Int) then (some (x0.take (x3 : Int).toNat)) else (none)) else (none))) else (none)) else (none)) else (if 0 ≤ x3 then (if x3 ≤ (x0.length : Int) then (some (x0.take (x3 : Int).toNat)) else (none)) else (none))
def exact_trim.f (k : Nat) (l0 : List Int) : Option (List Int) := exact_trim.l0 k l0 (l0.length : Int)
theorem exact_trim.mono_l : ∀ k, (∀ y0 y1, LeO (exact_trim.l0 k y0 y1) (exact_trim.l0 (k + 1) y0 y1))
  | 0 => fun _ _ r h => by simp [exact_trim.l0] at h
  | k + 1 => by
    have ih0 := exact_trim.mono_l k
    · intro y0 y1
      unfold exact_trim.l0
      repeat' first
      | (with_reducible exact ih0 _ _)
      | (with_reducible exact LeO.refl _)
      | (with_reducible exact LeO.none _)
      | (with_reducible refine LeO.ite ?_ ?_)
      | (with_reducible refine LeO.bind ?_ (fun _ => ?_))
      | exact ih0 _ _
      | exact LeO.none _
      | refine LeO.ite ?_ ?_
      | refine LeO.bind ?_ (fun _ => ?_)
theorem exact_trim.mono : ∀ a0 k, LeO (exact_trim.f k a0) (exact_trim.f (k + 1) a0) := by
  intro a0 k
  have ih0 := exact_trim.mono_l k
  unfold exact_trim.f
  repeat' first
      | (with_reducible exact ih0 _ _)
      | (with_reducible exact LeO.refl _)
      | (with_reducible exact LeO.none _)
      | (with_reducible refine LeO.ite ?_ ?_)
      | (with_reducible refine LeO.bind ?_ (fun _ => ?_))
      | exact ih0 _ _
      | exact LeO.none _
      | refine LeO.ite ?_ ?_
      | refine LeO.bind ?_ (fun _ => ?_)
set_option maxHeartbeats 8000000 in
set_option maxRecDepth 100000 in
theorem exact_trim.calls (k : Nat) (P0_ : Nat → Prop) (u9000_ : Value) (l0 : List Int) (r : List Int) (w0 w : World) (hB : Below w0.heap.size w0 w) (ho0 : Kd.R (Kd.int .u64) 79 w w0.heap.size P0_ u9000_ l0) (h : exact_trim.f k l0 = some r) :
    Calls Try.prog 58 #[u9000_] w fun e w' => ∃ v0_ : Value, e = .returned (v0_) ∧ Kd.R (Kd.int .u64) 79 w' w0.heap.size (fun k_ => (P0_ k_ ∨ w.heap.size ≤ k_)) v0_ r ∧ Below w0.heap.size w0 w' ∧ Kept w w' (fun k_ => P0_ k_) := by
  have HO0 := Aside0.mk (show Kd.R (Kd.int .u64) 79 w w0.heap.size (fun k_ => (P0_ k_ ∨ w.heap.size ≤ k_)) u9000_ l0 from Kd.R_mono ho0 (fun k_ hk => (.inl hk)))
  have HK := Aside0.mk (Kept.refl w (fun k_ => P0_ k_))
  have HW0 := Aside0.mk hB.size
  have HB := Aside0.mk hB
  clear hB
  have H : (exact_trim.l0 k l0 (l0.length : Int)) = some r := h
  clear h
  have H' := Aside0.mk H
  clear H
  obtain ⟨Ao2, co2, eo2⟩ := Kd.R_slice HO0.out
  subst eo2
  go_enter Try.func58, Try.ntmps58
  go_wp2
  go_loopg [3] k (fun kq v3 w' => ∃ (x3_1 : Int), v3 = .int .i64 x3_1 ∧ Aside0 (exact_trim.l0 kq l0 x3_1 = some r) ∧ Aside0 (kq ≤ k) ∧ Aside0 (Kd.R (Kd.int .u64) 79 w' w0.heap.size (fun k_ => (P0_ k_ ∨ w.heap.size ≤ k_)) (.slice Ao2 l0.length co2) l0) ∧ Aside0 (Kept w w' (fun k_ => P0_ k_)) ∧ Aside0 (Below w0.heap.size w0 w'))
  case atStart => exact ⟨((l0.length : Int)), (by first | rfl | (simp; done) | (simp [*]; done)), H', ⟨Nat.le_refl _⟩, ⟨by (with_reducible repeat (first | apply Kd.R_alloc | apply Kd.R_drewN | apply Kd.R_drew)); exact HO0.out⟩, ⟨by repeat (first | (with_reducible first | exact HK.out | apply Kept.alloc | apply Kept.drewN | apply Kept.drew) | exact HK.out)⟩, ⟨by repeat (first | (with_reducible first | exact HB.out | apply below_alloc | apply pw_below_drewN | apply below_drew1) | exact HB.out)⟩⟩
  case round =>
    clear H'
    try clear p2
    obtain ⟨x3_1, rfl, HA, HK1, HO_0, HK, HB⟩ := hrel
    cases gk with
    | zero => exact absurd HA.out (by simp [exact_trim.l0])
    | succ k1 =>
      have H := HA.out
      clear HA
      simp only [exact_trim.l0] at H
      by_cases c3 : x3_1 > 0
      · rw [if_pos c3] at H
        have c3b0 : decide (0 < x3_1) = true := decide_eq_true c3
        clear c3
        obtain ⟨ji4, hji4⟩ : ∃ j_ : Int, (wrap64 (x3_1 - 1)) = j_ := ⟨_, rfl⟩
        replace H : (if 0 ≤ (ji4) then (if (ji4) < (l0.length : Int) then (if (rd l0 (ji4)) = 0 then (exact_trim.l0 k1 l0 ji4) else (if 0 ≤ x3_1 then (if x3_1 ≤ (l0.length : Int) then (some (l0.take (x3_1 : Int).toNat)) else (none)) else (none))) else (none)) else (none)) = some r := by first | (rw [hji4] at H; exact H) | (simp only [hji4] at H ⊢; exact H)
        have hji4w : (IntKind.i64.wrap (x3_1 - 1)) = ji4 := (i64_w _).trans hji4
        by_cases c5 : 0 ≤ (ji4)
        · rw [if_pos c5] at H
          have c5b0 : decide (0 ≤ (ji4)) = true := decide_eq_true c5
          clear c5
          by_cases c6 : (ji4) < (l0.length : Int)
          · rw [if_pos c6] at H
            have c6b0 : decide ((ji4) < (l0.length : Int)) = true := decide_eq_true c6
            clear c6
            by_cases c7 : (rd l0 (ji4)) = 0
            · rw [if_pos c7] at H
              have c7b0 : ((rd l0 (ji4)) == 0) = true := beq_iff_eq.mpr c7
              have c7b1 : ((rd l0 (ji4)) != 0) = false := bne_eq_false_iff_eq.mpr c7
              clear c7
              have H' := Aside0.mk H
              clear H
              have p115 : 0 ≤ ((ji4) : Int) := of_decide_eq_true (by first | (with_reducible assumption) | assumption)
              have q115 : (ji4) < (l0.length : Int) := of_decide_eq_true (by first | (with_reducible assumption) | assumption)
              obtain ⟨ad115, e115, hx115_0⟩ := Kd.at_int (Kd.R_reads' HO_0.out).2.2 (ji4) p115 q115
              cases e115
              replace p115 := eq_true p115
              replace q115 := eq_true q115
              go_wp2
              go_roundg k1
              case measure => have := HK1.out; omega
              case rel => exact ⟨(ji4), (by first | rfl | (simp; done) | (simp only [← hji4] <;> (first | rfl | simp)) | (simp [*]; done)), H', ⟨by have := HK1.out; omega⟩, ⟨by (with_reducible repeat (first | apply Kd.R_alloc | apply Kd.R_drewN | apply Kd.R_drew)); exact HO_0.out⟩, ⟨by repeat (first | (with_reducible first | exact HK.out | apply Kept.alloc | apply Kept.drewN | apply Kept.drew) | exact HK.out)⟩, ⟨by repeat (first | (with_reducible first | exact HB.out | apply below_alloc | apply pw_below_drewN | apply below_drew1) | exact HB.out)⟩⟩
            · rw [if_neg c7] at H
              have c7b0 : ((rd l0 (ji4)) == 0) = false := beq_eq_false_iff_ne.mpr c7
              have c7b1 : ((rd l0 (ji4)) != 0) = true := bne_iff_ne.mpr c7
              by_cases c8 : 0 ≤ x3_1
              · rw [if_pos c8] at H
                have c8b0 := eq_true c8
                have c8b1 : decide (0 ≤ x3_1) = true := decide_eq_true c8
                clear c8
                by_cases c9 : x3_1 ≤ (l0.length : Int)
                · rw [if_pos c9] at H
                  have c9b0 := eq_true c9
                  have c9b1 : decide (x3_1 ≤ (l0.length : Int)) = true := decide_eq_true c9
                  clear c9
                  obtain ⟨y116, hy116⟩ : ∃ y_ : List Int, y_ = (l0.take (x3_1 : Int).toNat) := ⟨_, rfl⟩
                  replace H : (some y116) = some r := by first | (rw [hy116]; with_reducible exact H) | (have H2_ := (Option.bind_some _ _).symm.trans H; rw [hy116]; with_reducible exact H2_) | (have H2_ := (Option.bind_some _ _).symm.trans H; with_reducible exact H2_) | with_reducible exact H | (rw [hy116]; exact H) | exact H
                  have Ny116 := Aside0.mk hy116
                  clear hy116
                  obtain rfl := Option.some.inj H
                  have p115 : 0 ≤ ((ji4) : Int) := of_decide_eq_true (by first | (with_reducible assumption) | assumption)
                  have q115 : (ji4) < (l0.length : Int) := of_decide_eq_true (by first | (with_reducible assumption) | assumption)
                  obtain ⟨ad115, e115, hx115_0⟩ := Kd.at_int (Kd.R_reads' HO_0.out).2.2 (ji4) p115 q115
                  cases e115
                  replace p115 := eq_true p115
                  replace q115 := eq_true q115
                  have q10 : (x3_1 : Int) ≤ ((l0.length : Int) : Int) := of_decide_eq_true (by first | (with_reducible assumption) | assumption)
                  obtain ⟨i010, hi010, _, hsz10, _⟩ := info_parts info79
                  have hcut10 := cut_to (P := Try.prog) 82 79 .i64 Try.underlying82 hi010 (some ad115) l0.length co2 x3_1 (of_decide_eq_true (by first | (with_reducible assumption) | assumption)) q10 (Kd.R_reads' HO_0.out).2.1
                  have hr10 := Kd.R_take (m := (x3_1 : Int).toNat) HO_0.out (by omega)
                  have hy10 : y116.length = (x3_1 : Int).toNat := (by rw [Ny116.out, List.length_take]; omega)
                  rw [← Ny116.out] at hr10
                  rw [← hy10] at hr10 hcut10
                  clear hy10 hi010 hsz10 HO_0
                  have HO118 := Aside0.mk hr10
                  clear hr10
                  replace q10 := eq_true q10
                  go_wp2
                  go_ret
                  exact ⟨_, by first | rfl | (simp [errW_none, errW_some] <;> rfl) | (simp only [← hji4]; first | rfl | (simp [errW_none, errW_some] <;> rfl)) | (simp [*, errW_none, errW_some] <;> rfl), by (with_reducible repeat (first | apply Kd.R_alloc | apply Kd.R_drewN | apply Kd.R_drew)); exact HO118.out, by repeat (first | (with_reducible first | exact HB.out | apply below_alloc | apply pw_below_drewN | apply below_drew1) | exact HB.out), by repeat (first | (with_reducible first | exact HK.out | apply Kept.alloc | apply Kept.drewN | apply Kept.drew) | exact HK.out)⟩
                · rw [if_neg c9] at H
                  exact absurd H (by simp)
              · rw [if_neg c8] at H
                exact absurd H (by simp)
          · rw [if_neg c6] at H
            exact absurd H (by simp)
        · rw [if_neg c5] at H
          exact absurd H (by simp)
      · rw [if_neg c3] at H
        have c3b0 : decide (0 < x3_1) = false := decide_eq_false c3
        clear c3
        by_cases c11 : 0 ≤ x3_1
        · rw [if_pos c11] at H
          have c11b0 := eq_true c11
          have c11b1 : decide (0 ≤ x3_1) = true := decide_eq_true c11
          clear c11
          by_cases c12 : x3_1 ≤ (l0.length : Int)
          · rw [if_pos c12] at H
            have c12b0 := eq_true c12
            have c12b1 : decide (x3_1 ≤ (l0.length : Int)) = true := decide_eq_true c12
            clear c12
            obtain ⟨y119, hy119⟩ : ∃ y_ : List Int, y_ = (l0.take (x3_1 : Int).toNat) := ⟨_, rfl⟩
            replace H : (some y119) = some r := by first | (rw [hy119]; with_reducible exact H) | (have H2_ := (Option.bind_some _ _).symm.trans H; rw [hy119]; with_reducible exact H2_) | (have H2_ := (Option.bind_some _ _).symm.trans H; with_reducible exact H2_) | with_reducible exact H | (rw [hy119]; exact H) | exact H
            have Ny119 := Aside0.mk hy119
            clear hy119
            obtain rfl := Option.some.inj H
            have q13 : (x3_1 : Int) ≤ ((l0.length : Int) : Int) := of_decide_eq_true (by first | (with_reducible assumption) | assumption)
            obtain ⟨i013, hi013, _, hsz13, _⟩ := info_parts info79
            have hcut13 := cut_to (P := Try.prog) 82 79 .i64 Try.underlying82 hi013 Ao2 l0.length co2 x3_1 (of_decide_eq_true (by first | (with_reducible assumption) | assumption)) q13 (Kd.R_reads' HO_0.out).2.1
            have hr13 := Kd.R_take (m := (x3_1 : Int).toNat) HO_0.out (by omega)
            have hy13 : y119.length = (x3_1 : Int).toNat := (by rw [Ny119.out, List.length_take]; omega)
            rw [← Ny119.out] at hr13
            rw [← hy13] at hr13 hcut13
            clear hy13 hi013 hsz13 HO_0
            have HO121 := Aside0.mk hr13
            clear hr13
            replace q13 := eq_true q13
            go_wp2
            go_ret
            exact ⟨_, by first | rfl | (simp [errW_none, errW_some] <;> rfl) | (simp [*, errW_none, errW_some] <;> rfl), by (with_reducible repeat (first | apply Kd.R_alloc | apply Kd.R_drewN | apply Kd.R_drew)); exact HO121.out, by repeat (first | (with_reducible first | exact HB.out | apply below_alloc | apply pw_below_drewN | apply below_drew1) | exact HB.out), by repeat (first | (with_reducible first | exact HK.out | apply Kept.alloc | apply Kept.drewN | apply Kept.drew) | exact HK.out)⟩
          · rw [if_neg c12] at H
            exact absurd H (by simp)
        · rw [if_neg c11] at H
          exact absurd H (by simp)

end Go.Proofs.Ytobbdbkcailfkaa.PTopZolotarev
