/- Ranks: how many permutations are less. Plain: no program in sight. -/
import Derived.Test.YtoaalfpfklchfaaDoorZPermBackLists
namespace Go.Proofs.YtoaalfpfklchfaaDoor.Plain
set_option linter.unusedVariables false
set_option linter.unusedSimpArgs false
def fact : Nat → Nat
  | 0 => 1
  | n + 1 => (n + 1) * fact n
theorem fact_succ (n : Nat) : fact (n + 1) = (n + 1) * fact n := rfl
theorem fact_zero : fact 0 = 1 := rfl
theorem fact_pos : ∀ n, 0 < fact n
  | 0 => Nat.one_pos
  | n + 1 => Nat.mul_pos (Nat.succ_pos n) (fact_pos n)
theorem fact_le {a b : Nat} (h : a ≤ b) : fact a ≤ fact b := by
  induction b with
  | zero => rw [Nat.le_zero.1 h]; exact Nat.le_refl _
  | succ b ih =>
    rcases Nat.lt_or_eq_of_le h with h1 | h1
    · exact Nat.le_trans (ih (by omega)) (Nat.le_mul_of_pos_left _ (Nat.succ_pos b))
    · rw [h1]; exact Nat.le_refl _
theorem fact_20 {n : Nat} (h : n ≤ 20) : fact n ≤ 2432902008176640000 := Nat.le_trans (fact_le h) (by decide)
theorem le_fact : ∀ n, n ≤ fact n
  | 0 => Nat.zero_le _
  | n + 1 => Nat.le_mul_of_pos_right _ (fact_pos n)
/-- How many members of a list are less. -/
def below (x : Int) (l : List Int) : Nat := (l.filter fun y => decide (y < x)).length
theorem below_le (x : Int) (l : List Int) : below x l ≤ l.length := List.length_filter_le ..
def rk : List Int → Nat
  | [] => 0
  | x :: l => below x l * fact l.length + rk l
theorem rk_lt : ∀ l : List Int, rk l < fact l.length
  | [] => Nat.one_pos
  | x :: l => by
    have h1 := rk_lt l
    have h2 := below_le x l
    show below x l * fact l.length + rk l < (l.length + 1) * fact l.length
    have h3 : below x l * fact l.length ≤ l.length * fact l.length := Nat.mul_le_mul_right _ h2
    rw [Nat.add_mul]
    omega
theorem below_cons (x y : Int) (l : List Int) : below x (y :: l) = (if y < x then 1 else 0) + below x l := by
  unfold below
  rw [List.filter_cons]
  by_cases h : y < x
  · rw [if_pos h, if_pos (decide_eq_true h), List.length_cons]; omega
  · rw [if_neg h, if_neg (by rw [decide_eq_false h]; exact Bool.false_ne_true)]; omega
theorem below_append (x : Int) (l m : List Int) : below x (l ++ m) = below x l + below x m := by
  unfold below
  rw [List.filter_append, List.length_append]
end Go.Proofs.YtoaalfpfklchfaaDoor.Plain
