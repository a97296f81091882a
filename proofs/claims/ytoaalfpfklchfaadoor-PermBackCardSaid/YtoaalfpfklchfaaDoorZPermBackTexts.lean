/- Texts: numbers and lists as they are read, and as they are written. Plain: no program in sight. -/
import Derived.Test.YtoaalfpfklchfaaDoorZPermBackLists
import Derived.Lib.Atoi
import Derived.Laws.Strings
namespace Go.Proofs.YtoaalfpfklchfaaDoor.Plain
set_option linter.unusedVariables false
set_option linter.unusedSimpArgs false
open Go.RowKit Go.Proofs.YtoaalfpfklchfaaDoorW.PrintWords
/-- A digit at a place. -/
def dig (s : ByteArray) (i : Nat) : Bool := decide (i < s.size) && decide (48 ≤ bt s (i : Int)) && decide (bt s (i : Int) ≤ 57)
theorem dig_true {s : ByteArray} {i : Nat} (h : dig s i = true) : i < s.size ∧ 48 ≤ bt s (i : Int) ∧ bt s (i : Int) ≤ 57 := by
  unfold dig at h
  simp only [Bool.and_eq_true, decide_eq_true_eq] at h
  exact ⟨h.1.1, h.1.2, h.2⟩
theorem dig_false {s : ByteArray} {i : Nat} (h : dig s i = false) (hi : i < s.size) : bt s (i : Int) < 48 ∨ 57 < bt s (i : Int) := by
  apply Classical.byContradiction
  intro hc
  have : dig s i = true := by
    unfold dig
    simp only [Bool.and_eq_true, decide_eq_true_eq]
    omega
  rw [this] at h
  cases h
/-- The end of the digits. -/
def runE (s : ByteArray) : Nat → Nat → Nat
  | 0, i => i
  | d + 1, i => if dig s i = true then runE s d (i + 1) else i
theorem runE_le (s : ByteArray) : ∀ d i, i ≤ runE s d i
  | 0, i => Nat.le_refl _
  | d + 1, i => by
    unfold runE
    split
    · exact Nat.le_trans (Nat.le_succ i) (runE_le s d (i + 1))
    · exact Nat.le_refl _
theorem runE_size (s : ByteArray) : ∀ d i, i ≤ s.size → runE s d i ≤ s.size
  | 0, i, h => h
  | d + 1, i, h => by
    unfold runE
    split
    · rename_i hd
      exact runE_size s d (i + 1) (dig_true hd).1
    · exact h
theorem runE_dig (s : ByteArray) : ∀ d i j, i ≤ j → j < runE s d i → dig s j = true
  | 0, i, j, h1, h2 => absurd h2 (by show ¬ j < i; omega)
  | d + 1, i, j, h1, h2 => by
    unfold runE at h2
    split at h2
    · rename_i hd
      rcases Nat.lt_or_eq_of_le h1 with h | h
      · exact runE_dig s d (i + 1) j h h2
      · rw [← h]; exact hd
    · omega
theorem runE_end (s : ByteArray) : ∀ d i, s.size - i ≤ d → dig s (runE s d i) = false
  | 0, i, h => by
    show dig s i = false
    unfold dig
    rw [decide_eq_false (by omega : ¬ i < s.size)]
    rfl
  | d + 1, i, h => by
    unfold runE
    split
    · exact runE_end s d (i + 1) (by omega)
    · rename_i hd
      exact Bool.eq_false_iff.2 hd
/-- The end of the number at a place. -/
def endN (s : ByteArray) (at_ : Nat) : Nat := runE s (s.size - at_) at_
theorem endN_le (s : ByteArray) (a : Nat) : a ≤ endN s a := runE_le ..
theorem endN_size (s : ByteArray) {a : Nat} (h : a ≤ s.size) : endN s a ≤ s.size := runE_size _ _ _ h
theorem endN_dig (s : ByteArray) (a j : Nat) (h1 : a ≤ j) (h2 : j < endN s a) : dig s j = true := runE_dig _ _ _ _ h1 h2
theorem endN_end (s : ByteArray) (a : Nat) : dig s (endN s a) = false := runE_end _ _ _ (Nat.le_refl _)
/-- The end is where the first place without a digit is. -/
theorem endN_eq {s : ByteArray} {a i : Nat} (hai : a ≤ i) (hd : ∀ j, a ≤ j → j < i → dig s j = true) (he : dig s i = false) : endN s a = i := by
  rcases Nat.lt_trichotomy (endN s a) i with h | h | h
  · have := hd _ (endN_le s a) h
    rw [endN_end] at this
    cases this
  · exact h
  · have := endN_dig s a i hai h
    rw [he] at this
    cases this
/-- The number that n digits spell. -/
def valS (s : ByteArray) (a : Nat) : Nat → Nat
  | 0 => 0
  | n + 1 => valS s a n * 10 + (bt s ((a + n : Nat) : Int) - 48).toNat
theorem valS_le (s : ByteArray) (a : Nat) : ∀ n, (∀ j, a ≤ j → j < a + n → dig s j = true) → valS s a n < 10 ^ n
  | 0, _ => Nat.one_pos
  | n + 1, h => by
    have ih := valS_le s a n fun j h1 h2 => h j h1 (by omega)
    have hd := dig_true (h (a + n) (by omega) (by omega))
    show valS s a n * 10 + (bt s ((a + n : Nat) : Int) - 48).toNat < 10 ^ (n + 1)
    rw [Nat.pow_succ]
    omega
/-- There is no number: no digit, more than three, or more than one, the first one of which is 0. -/
def badN (s : ByteArray) (a : Nat) : Prop := endN s a = a ∨ 3 < endN s a - a ∨ (bt s (a : Int) = 48 ∧ 1 < endN s a - a)
instance (s : ByteArray) (a : Nat) : Decidable (badN s a) := by unfold badN; exact inferInstance
def numV (s : ByteArray) (a : Nat) : Nat := valS s a (endN s a - a)
/-- The text, read: behind a list (none), or in one. -/
def scanT (s : ByteArray) : Nat → Nat → Option (List Int) → List (List Int) → List (List Int) × Bool
  | 0, _, _, _ => ([], false)
  | d + 1, a, none, out => if a < s.size then (if bt s (a : Int) = 40 then scanT s d (a + 1) (some []) out else ([], false)) else (out, decide ((out.length : Int) > 0))
  | d + 1, a, some l, out => if badN s a then ([], false) else if endN s a = s.size then ([], false)
      else if bt s (endN s a : Int) = 41 then scanT s d (endN s a + 1) none (out ++ [l ++ [(numV s a : Int)]])
      else if bt s (endN s a : Int) = 32 then scanT s d (endN s a + 1) (some (l ++ [(numV s a : Int)])) out else ([], false)
def listsS (s : ByteArray) : List (List Int) × Bool := if s.toList = ([40, 41] : List UInt8) then ([], true) else scanT s (s.size + 2) 0 none []
def parseS (n : Int) (s : ByteArray) : List Int × Int := if degE n = 0 then (if 4096 < s.size then ([], 12) else if (listsS s).2 = true then fromC n (listsS s).1 else ([], 11)) else ([], degE n)
/-- Each list is as short as the text. -/
theorem scanT_short (s : ByteArray) : ∀ (d a : Nat) (l : Option (List Int)) (out : List (List Int)), a ≤ s.size → (∀ x, l = some x → x.length ≤ a) → out.length ≤ a → (∀ c ∈ out, c.length ≤ s.size) → (scanT s d a l out).1.length ≤ s.size ∧ ∀ c ∈ (scanT s d a l out).1, c.length ≤ s.size
  | 0, _, _, _, _, _, _, _ => ⟨Nat.zero_le _, fun c h => by cases h⟩
  | d + 1, a, none, out, ha, hl, ho, hc => by
    unfold scanT
    split
    · split
      · exact scanT_short s d (a + 1) (some []) out ‹_› (fun x hx => by cases hx; exact Nat.zero_le _) (by omega) hc
      · exact ⟨Nat.zero_le _, fun c h => by cases h⟩
    · exact ⟨by show out.length ≤ _; omega, hc⟩
  | d + 1, a, some l, out, ha, hl, ho, hc => by
    have h0 : ([] : List (List Int)).length ≤ s.size ∧ ∀ c ∈ ([] : List (List Int)), c.length ≤ s.size := ⟨Nat.zero_le _, fun c h => by cases h⟩
    have he := endN_le s a
    have hs := endN_size s ha
    have hl := hl l rfl
    unfold scanT
    split
    · exact h0
    · rename_i hb
      have hne : endN s a ≠ a := fun e => hb (.inl e)
      split
      · exact h0
      · rename_i hz
        split
        · refine scanT_short s d _ none _ (by omega) (fun x hx => by cases hx) (by rw [List.length_append, List.length_singleton]; omega) ?_
          intro c hcm
          rcases List.mem_append.1 hcm with h | h
          · exact hc c h
          · rw [List.mem_singleton] at h
            rw [h, List.length_append, List.length_singleton]; omega
        · split
          · exact scanT_short s d _ (some _) out (by omega) (fun x hx => by cases hx; rw [List.length_append, List.length_singleton]; omega) (by omega) hc
          · exact h0
theorem listsS_short (s : ByteArray) : (listsS s).1.length ≤ s.size ∧ ∀ c ∈ (listsS s).1, c.length ≤ s.size := by
  unfold listsS
  split
  · exact ⟨Nat.zero_le _, fun c h => by cases h⟩
  · exact scanT_short s _ 0 none [] (Nat.zero_le _) (fun x hx => by cases hx) (Nat.zero_le _) (fun c h => by cases h)
/-- The digits of a row of bytes. -/
theorem decFrom_valS (s : ByteArray) (a : Nat) : ∀ n, (∀ j, a ≤ j → j < a + n → dig s j = true) → a + n ≤ s.size → Lib.decFrom 0 ((s.data.toList.drop a).take n) = some (valS s a n)
  | 0, _, _ => by rw [List.take_zero]; rfl
  | n + 1, h, hs => by
    have hd := dig_true (h (a + n) (by omega) (by omega))
    have hlt : a + n < s.data.toList.length := by
      have : s.data.toList.length = s.size := by rw [Array.length_toList]; rfl
      omega
    have hb : bt s ((a + n : Nat) : Int) = ((s.data.toList[a + n]).toNat : Int) := by
      unfold bt
      rw [Int.toNat_natCast, dif_pos (by omega)]
      rfl
    refine Lib.decFrom_take (s.data.toList.drop a) n 0 (valS s a n) s.data.toList[a + n] (bt s ((a + n : Nat) : Int) - 48).toNat (decFrom_valS s a n (fun j h1 h2 => h j h1 (by omega)) (by omega)) ?_ ?_
    · rw [List.getElem?_drop, List.getElem?_eq_getElem hlt]
    · unfold Lib.digitVal
      rw [hb] at hd ⊢
      rw [if_pos (by omega)]
      congr 1
      omega
theorem atoi_valS {s : ByteArray} {a e : Nat} (hae : a < e) (he : e ≤ s.size) (h : ∀ j, a ≤ j → j < e → dig s j = true) : Lib.atoi (s.extract a e).data.toList = some ((valS s a (e - a) : Nat) : Int) := by
  have hx : (s.extract a e).data.toList = (s.data.toList.drop a).take (e - a) := by
    rw [ByteArray.data_extract, Array.toList_extract]
  have hd := decFrom_valS s a (e - a) (fun j h1 h2 => h j h1 (by omega)) (by omega)
  rw [hx]
  have hlen : s.data.toList.length = s.size := by rw [Array.length_toList]; rfl
  have hcons : (s.data.toList.drop a).take (e - a) = s.data.toList[a] :: (s.data.toList.drop (a + 1)).take (e - a - 1) := by
    rw [List.drop_eq_getElem_cons (by omega : a < s.data.toList.length), show e - a = (e - a - 1) + 1 by omega, List.take_succ_cons]
    rfl
  rw [hcons] at hd ⊢
  have h0 := dig_true (h a (Nat.le_refl _) hae)
  have hb : bt s (a : Int) = ((s.data.toList[a]).toNat : Int) := by
    unfold bt
    rw [Int.toNat_natCast, dif_pos (by omega)]
    rfl
  rw [hb] at h0
  have n1 : ¬ (s.data.toList[a] == 45) = true := fun hc => by
    have := beq_iff_eq.1 hc
    rw [this] at h0
    exact absurd h0.2.1 (by decide)
  have n2 : ¬ (s.data.toList[a] == 43) = true := fun hc => by
    have := beq_iff_eq.1 hc
    rw [this] at h0
    exact absurd h0.2.1 (by decide)
  unfold Lib.atoi
  simp only [n1, n2, Bool.false_eq_true, if_false]
  unfold Lib.decNat
  simp only [List.isEmpty_cons, Bool.false_eq_true, if_false, hd, Option.map_some]
/-- The digits of a number below 20. -/
def numB (n : Nat) : ByteArray := if n < 10 then ⟨#[UInt8.ofNat (48 + n)]⟩ else ⟨#[49, UInt8.ofNat (38 + n)]⟩
theorem numB_size {n : Nat} : (numB n).size ≤ 2 := by
  unfold numB
  split
  · exact (by decide : 1 ≤ 2)
  · exact (by decide : 2 ≤ 2)
/-- Behind j elements of a cycle. -/
def fmt1 (c : List Int) (x : ByteArray) : Nat → ByteArray
  | 0 => x
  | j + 1 => (if j = 0 then x ++ ⟨#[40]⟩ else fmt1 c x j ++ ⟨#[32]⟩) ++ numB (c.getD j 0).toNat
def fmtC (C : List (List Int)) : ByteArray := C.foldl (fun x c => fmt1 c x c.length ++ ⟨#[41]⟩) ⟨#[]⟩
def fmtS (C : List (List Int)) : ByteArray := if C = [] then ⟨#[40, 41]⟩ else fmtC C
theorem fmt1_size (c : List Int) (x : ByteArray) : ∀ j, (fmt1 c x j).size ≤ x.size + 3 * j
  | 0 => Nat.le_refl _
  | j + 1 => by
    have h := @numB_size (c.getD j 0).toNat
    have ih := fmt1_size c x j
    unfold fmt1
    rw [ByteArray.size_append]
    split
    · rw [ByteArray.size_append, show (⟨#[40]⟩ : ByteArray).size = 1 from rfl]; omega
    · rw [ByteArray.size_append, show (⟨#[32]⟩ : ByteArray).size = 1 from rfl]; omega
theorem fmtC_take {C : List (List Int)} {i : Nat} (h : i < C.length) : fmtC (C.take (i + 1)) = fmt1 C[i] (fmtC (C.take i)) C[i].length ++ ⟨#[41]⟩ := by
  unfold fmtC
  rw [← List.take_append_getElem h, List.foldl_append]
  rfl
theorem fmtC_size {C : List (List Int)} (hC : ∀ c ∈ C, c.length ≤ 20) : ∀ i, i ≤ C.length → (fmtC (C.take i)).size ≤ 64 * i
  | 0, _ => by rw [List.take_zero]; exact Nat.le_refl _
  | i + 1, h => by
    have ih := fmtC_size hC i (by omega)
    have hc := hC C[i] (List.getElem_mem (by omega))
    have h1 := fmt1_size C[i] (fmtC (C.take i)) C[i].length
    rw [fmtC_take (by omega : i < C.length), ByteArray.size_append, show (⟨#[41]⟩ : ByteArray).size = 1 from rfl]
    omega
theorem fmtC_pos {C : List (List Int)} (h : C ≠ []) : 0 < (fmtC C).size := by
  have hl : C.length - 1 < C.length := by have := List.length_pos_iff.2 h; omega
  have e : C = C.take (C.length - 1 + 1) := by rw [List.take_of_length_le (by omega)]
  rw [e, fmtC_take hl, ByteArray.size_append, show (⟨#[41]⟩ : ByteArray).size = 1 from rfl]
  omega
theorem cycI_mem {g : Nat → Nat} {n : Nat} {c : List Int} (hc : c ∈ cycI g n n) : ∃ i, i < n ∧ isHead g n i = true ∧ c = ints (orb g n i) := by
  unfold cycI cyc at hc
  obtain ⟨o, ho, rfl⟩ := List.mem_map.1 hc
  obtain ⟨i, hi, rfl⟩ := List.mem_map.1 ho
  obtain ⟨h1, h2⟩ := List.mem_filter.1 hi
  exact ⟨i, List.mem_range.1 h1, h2, rfl⟩
theorem cycI_short {g : Nat → Nat} {n : Nat} (h : Bij n g) (hn : n ≤ 20) : ∀ c ∈ cycI g n n, c.length ≤ 20 := by
  intro c hc
  obtain ⟨i, hi, _, rfl⟩ := cycI_mem hc
  have := (h.per_spec hi).2.1
  unfold ints
  rw [List.length_map, orb_length]
  omega
theorem cycI_pos {g : Nat → Nat} {n : Nat} (h : Bij n g) : ∀ c ∈ cycI g n n, 0 < c.length := by
  intro c hc
  obtain ⟨i, hi, _, rfl⟩ := cycI_mem hc
  unfold ints
  rw [List.length_map, orb_length]
  exact per_pos ..
theorem cycI_vals {g : Nat → Nat} {n : Nat} (h : Bij n g) (hn : n ≤ 20) : ∀ c ∈ cycI g n n, ∀ x ∈ c, 0 ≤ x ∧ x < 20 := by
  intro c hc x hx
  obtain ⟨i, hi, _, rfl⟩ := cycI_mem hc
  unfold ints at hx
  obtain ⟨y, hy, rfl⟩ := List.mem_map.1 hx
  have := h.orb_lt hi hy
  omega
theorem toList_nil (s : ByteArray) : s.toList = ([] : List UInt8) ↔ s.size = 0 := by
  rw [Go.ByteArray.toList_eq]
  constructor
  · intro h
    have : s.data.toList.length = s.size := by rw [Array.length_toList]; rfl
    rw [h] at this
    exact this.symm
  · intro h
    have : s.data.toList.length = s.size := by rw [Array.length_toList]; rfl
    exact List.length_eq_zero_iff.1 (by omega)
end Go.Proofs.YtoaalfpfklchfaaDoor.Plain
