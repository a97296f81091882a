/- A law's argument, read as data, told as the print's words tell it: whole numbers, rows of whole numbers, rows of rows. Plain: no program in sight. -/
import Derived.Test.YtmbldnoepjmhhaaZPermgroupFormsWMore
import Derived.Deep.Slices
import Derived.Lib.SmallJoins
import Derived.ChangeShapes
namespace Go.Proofs.Ytmbldnoepjmhhaa.Plain
open Go.RowKit Go.Deep Go.ChangeShapes Go.WideShapes Go.Proofs.YtmbldnoepjmhhaaW.PrintWords
section
variable {H : Type} {enc : TypeId × Value → H} {P : Program} {w : World} {α : Type} {d : Kd α} {ok : α → Prop} {t e : TypeId}
theorem choose_list {β : Type} (p : Nat → β → Prop) : ∀ n, (∀ i, i < n → ∃ x, p i x) → ∃ l : List β, l.length = n ∧ ∀ i x, l[i]? = some x → p i x
  | 0, _ => ⟨[], rfl, fun i x h => by simp at h⟩
  | n + 1, h => by
    obtain ⟨l, hl, hp⟩ := choose_list p n (fun i hi => h i (by omega))
    obtain ⟨x, hx⟩ := h n (by omega)
    refine ⟨l ++ [x], by simp [hl], fun i y hy => ?_⟩
    by_cases hi : i < l.length
    · rw [List.getElem?_append_left hi] at hy
      exact hp i y hy
    · rw [List.getElem?_append_right (by omega)] at hy
      have : i - l.length = 0 := by
        have := (List.getElem?_eq_some_iff.1 hy).1
        simp at this; omega
      rw [this] at hy
      obtain rfl : x = y := by simpa using hy
      rw [show i = n by omega]
      exact hx
def Opens (enc : TypeId × Value → H) (P : Program) (w : World) (e : TypeId) (d : Kd α) (ok : α → Prop) : Prop :=
  ∀ fuel cs x, DataW.trod enc P w 0 (fun _ => true) true fuel e cs = some x → ∃ y, d.K w y cs ∧ ok y
theorem opens_int {k : IntKind} (he : P.underlying e = some (.int k)) : Opens enc P w e (Kd.int k) (fun n => (Lit.int k n).wf = true) := by
  intro fuel cs x h
  obtain ⟨n, rfl, _, hw⟩ := DataW.trod_int he h
  exact ⟨n, rfl, hw⟩
theorem open_rows (ht : P.underlying t = some (.slice e)) (hsz : P.cellsOf e = d.sz) (ho : Opens enc P w e d ok) {fuel : Nat} {cs : List Value} {x : DataW H × List MemPlace} (h : DataW.trod enc P w 0 (fun _ => true) true fuel t cs = some x) :
    ∃ A c, ∃ l : List α, cs = [.slice A l.length c] ∧ l.length ≤ c ∧ l.length ≤ maxLen ∧ d.C w A l.length l ∧ ∀ y ∈ l, ok y := by
  rcases open_slice ht h with ⟨rfl, _⟩ | ⟨a, len, cap, m, n, D, Pl, rfl, _, hl, hm, hmm, _, hx⟩
  · exact ⟨none, 0, [], rfl, Nat.le_refl _, Nat.zero_le _, Kd.C_nil d w, fun _ h => by cases h⟩
  · have hlen : len ≤ m := by rw [hmm]; simp; exact hl
    have hel : ∀ i, i < len → ∃ y, ∃ cs', cs'.length = d.sz ∧ (∀ j u, cs'[j]? = some u → w.cell? (a.add (i * d.sz + j)) = some u) ∧ d.K w y cs' ∧ ok y := by
      intro i hi
      obtain ⟨cs', h1, h2⟩ := hx i (by omega)
      obtain ⟨y, hy, hok⟩ := ho _ _ _ h2
      obtain ⟨_, hlc, hc⟩ := World.cells?_some h1
      refine ⟨y, cs', by rw [hlc, hsz], fun j u hu => ?_, hy, hok⟩
      have hj : j < cs'.length := (List.getElem?_eq_some_iff.1 hu).1
      have := hc j (by omega)
      rw [hu, Deep.add_add, hsz] at this
      exact this
    obtain ⟨l, hll, hY⟩ := choose_list _ len hel
    refine ⟨some a, cap, l, by rw [hll], by omega, by omega, ⟨rfl, by simp only [maxLen] at *; omega, fun _ => ⟨a, rfl, fun j p hp => ?_⟩⟩, fun y hy => ?_⟩
    · obtain ⟨cs', h1, h2, h3, _⟩ := hY j p hp
      exact ⟨cs', h1, h3, h2⟩
    · obtain ⟨j, hj⟩ := List.getElem?_of_mem hy
      obtain ⟨_, _, _, _, h4⟩ := hY j y hj
      exact h4
theorem opens_slice {E : Nat} (ht : P.underlying t = some (.slice e)) (hsz : P.cellsOf e = d.sz) (ho : Opens enc P w e d ok) : Opens enc P w t (Kd.slice E d) (fun l => l.length ≤ maxLen ∧ ∀ y ∈ l, ok y) := by
  intro fuel cs x h
  obtain ⟨A, c, l, rfl, hl, hm, hC, hok⟩ := open_rows ht hsz ho h
  exact ⟨l, ⟨A, c, rfl, hl, hC⟩, hm, hok⟩
end
end Go.Proofs.Ytmbldnoepjmhhaa.Plain
