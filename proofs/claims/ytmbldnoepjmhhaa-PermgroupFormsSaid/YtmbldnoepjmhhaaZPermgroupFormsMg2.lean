/- Texts of this claim put together (wip/tools/merge.py). -/
import Derived.Test.YtmbldnoepjmhhaaZPermgroupFormsWMore
import Derived.Shelf.SlSortCmp.Whole1
import Derived.Sort.LotA
import Derived.Test.YtmbldnoepjmhhaaZPermgroupFormsMg0
set_option linter.unusedVariables false
set_option linter.unusedSimpArgs false
section
/- What slices.SortFunc leaves of a row of whole numbers of the call's own, in the print's words. Plain: no program in sight. -/
namespace Go.Proofs.Ytmbldnoepjmhhaa.Plain
open Go.RowKit Go.Sort Go.Shelf Go.Proofs.YtmbldnoepjmhhaaW.PrintWords
abbrev Sm := {x : Int // -4611686018427387904 ≤ x ∧ x < 4611686018427387904}
instance : Inhabited Sm := ⟨⟨0, by omega, by omega⟩⟩
def encSm (x : Sm) : Value := .int .i64 x.1
def downSm (x y : Sm) : Int := y.1 - x.1
theorem lt_downSm (x y : Sm) : ltOf downSm x y = decide (y.1 < x.1) := by
  unfold ltOf downSm
  rw [Bool.eq_iff_iff]
  simp only [decide_eq_true_eq]
  omega
theorem swo_downSm : SWO (ltOf downSm) where
  irrefl x := by rw [lt_downSm]; simp
  trans x y z h1 h2 := by rw [lt_downSm] at *; simp at *; omega
  ntrans x y z h1 h2 := by rw [lt_downSm] at *; simp at *; omega
def sortDesc (l : List Int) : List Int := l.mergeSort (fun x y => decide (y ≤ x))
theorem sortDesc_perm (l : List Int) : (sortDesc l).Perm l := List.mergeSort_perm l _
theorem sortDesc_sorted (l : List Int) : (sortDesc l).Pairwise (fun x y => y ≤ x) := by
  have := List.pairwise_mergeSort (le := fun x y : Int => decide (y ≤ x)) (by intro a b c; simp; omega) (by intro a b; simp; omega) l
  exact this.imp (by simp)
theorem desc_unique : ∀ {l l' : List Int}, l.Perm l' → l.Pairwise (fun x y => y ≤ x) → l'.Pairwise (fun x y => y ≤ x) → l = l' := by
  intro l
  induction l with
  | nil => intro l' h _ _; exact (List.nil_perm.1 h).symm
  | cons a l ih =>
    intro l' h h1 h2
    cases l' with
    | nil => exact absurd h (by simp)
    | cons b l' =>
      have hab : a = b := by
        have ha : a ∈ b :: l' := h.subset (List.mem_cons_self ..)
        have hb : b ∈ a :: l := h.symm.subset (List.mem_cons_self ..)
        rcases List.mem_cons.1 ha with rfl | ha
        · rfl
        · rcases List.mem_cons.1 hb with rfl | hb
          · rfl
          · have p := (List.pairwise_cons.1 h2).1 a ha
            have q := (List.pairwise_cons.1 h1).1 b hb
            omega
      subst hab
      rw [ih (List.perm_cons a |>.1 h) (List.pairwise_cons.1 h1).2 (List.pairwise_cons.1 h2).2]
theorem vals_of {d d' : Array Sm} (hp : PermIn 0 d.size d d') (hs : SortedIn (ltOf downSm) 0 d.size d') : d'.toList.map (·.1) = sortDesc (d.toList.map (·.1)) := by
  obtain ⟨h0, _, h2⟩ := hp
  have e : d'.size = d.size := h0
  have h2' : d'.toList.Perm d.toList := by
    have a : (d'.extract 0 d.size).toList = d'.toList := by rw [← e]; simp
    have b : (d.extract 0 d.size).toList = d.toList := by simp
    rw [a, b] at h2
    exact h2
  refine desc_unique ((h2'.map _).trans (sortDesc_perm _).symm) ?_ (sortDesc_sorted _)
  rw [List.pairwise_map, List.pairwise_iff_getElem]
  intro i j hi hj hij
  have := hs i j (Nat.zero_le _) hij (by simpa [e] using hj)
  rw [lt_downSm] at this
  simp only [decide_eq_false_iff_not, Int.not_lt] at this
  have gi : d'[i]! = d'.toList[i] := by
    rw [getElem!_pos d' i (by simpa using hi)]; simp
  have gj : d'[j]! = d'.toList[j] := by
    rw [getElem!_pos d' j (by simpa using hj)]; simp
  rw [gi, gj] at this
  exact this
theorem as_small : ∀ l : List Int, (∀ x ∈ l, -4611686018427387904 ≤ x ∧ x < 4611686018427387904) → ∃ d : List Sm, d.map (·.1) = l
  | [], _ => ⟨[], rfl⟩
  | x :: l, h => by
    obtain ⟨d, hd⟩ := as_small l fun y hy => h y (List.mem_cons_of_mem _ hy)
    exact ⟨⟨x, h x (List.mem_cons_self ..)⟩ :: d, by simp [hd]⟩
def smallAll (l : List Int) : Bool := decide (l.length < 4611686018427387904) && l.all fun x => decide (-4611686018427387904 ≤ x ∧ x < 4611686018427387904)
set_option maxHeartbeats 1000000 in
theorem sortFunc_row {P : Program} {ρ : Ren} (L : SlLaysF.n6 P ρ) (g : Nat) (eg : ∀ args w, (callFunc g args).run P w = .ok (.enter g args) w)
    (hc : ∀ (x y : Sm) (W : World), Calls P g #[.int .i64 x.1, .int .i64 y.1] W fun e w' => e = .returned (.int .i64 (y.1 - x.1)) ∧ ∃ q, w' = W.drewN q)
    (hnil : ∀ W : World, Calls P (ρ.f 6) #[.slice none 0 0, .func (.func g) #[] #[]] W fun e w' => e = .returned (.tuple #[]) ∧ w' = W)
    {w W : World} {E base : Nat} {ok : Nat → Prop} {u : Value} {l : List Int} (h : Kd.R (Kd.int .i64) E W base ok u l) (hbase : w.heap.size ≤ base) (HB : Below w.heap.size w W) (hs : smallAll l = true) :
    Calls P (ρ.f 6) #[u, .func (.func g) #[] #[]] W fun e w' => e = .returned (.tuple #[]) ∧ Kd.R (Kd.int .i64) E w' base ok u (sortDesc l) ∧ Below w.heap.size w w' := by
  have hown := Kd.own_of_R h
  have hok := h.1
  obtain ⟨_, ⟨rfl, hl0⟩ | ⟨b, cap, cur, rfl, hb, hheap, hcap, hcm, hcs, htake⟩⟩ := hown
  · obtain rfl : l = [] := List.length_eq_zero_iff.1 hl0
    refine (hnil W).mono ?_
    rintro e w' ⟨rfl, rfl⟩
    exact ⟨rfl, by rw [show sortDesc [] = [] by simp [sortDesc]]; exact h, HB⟩
  · have hsm : ∀ x ∈ l, -4611686018427387904 ≤ x ∧ x < 4611686018427387904 := fun x hx => of_decide_eq_true (List.all_eq_true.1 (Bool.and_eq_true_iff.1 hs).2 x hx)
    obtain ⟨dl, hdl⟩ := as_small l hsm
    have hlen : dl.length = l.length := by rw [← hdl, List.length_map]
    have hblk : b < W.heap.size := by
      rw [Array.getElem?_eq_some_iff] at hheap
      exact hheap.1
    have hget : ∀ j (hj : j < dl.length), (dl.toArray)[j]! = dl[j] := fun j hj => by
      rw [getElem!_pos dl.toArray j (by simpa using hj)]; simp
    have hH : Holds encSm W b 0 dl.toArray := by
      intro j hj
      have hj' : j < dl.length := by simpa using hj
      obtain ⟨h1, h2⟩ := Kd.R_celln 0 h (j : Int) (by omega) (by omega)
      rw [Int.toNat_natCast] at h1 h2
      rw [Nat.zero_add]
      refine ⟨?_, h2⟩
      rw [h1, hget j hj']
      congr 1
      show Value.int .i64 (rdOf 0 l (j : Int)) = Value.int .i64 (dl[j]).1
      congr 1
      unfold rdOf
      rw [Int.toNat_natCast, ← hdl, List.getD_eq_getElem?_getD, List.getElem?_map, List.getElem?_eq_getElem hj']
      rfl
    have hsz : dl.toArray.size = l.length := by simpa using hlen
    have hmax : l.length < 4611686018427387904 := of_decide_eq_true (Bool.and_eq_true_iff.1 hs).1
    have hcon := Any.slices_SortFunc L encSm (fun _ => rfl) downSm swo_downSm g #[] b 0 cap dl.toArray W eg
      (fun m os dk _ x y => (hc x y _).mono fun _ _ ⟨he, q, hq⟩ => ⟨he, q, #[], by rw [hq, grow_empty]⟩) hH hblk (by omega)
    rw [hsz] at hcon
    refine hcon.mono ?_
    rintro e w' ⟨rfl, d', n, os, hp, hso, rfl⟩
    have hv := vals_of (d := dl.toArray) (d' := d') (by rw [hsz]; exact hp) (by rw [hsz]; exact hso)
    have hv' : d'.toList.map (·.1) = sortDesc l := by rw [hv]; simp [hdl]
    have hd' : d'.size = l.length := by have := hp.1; omega
    have heap' : ∀ k, (sortWorld encSm W b 0 n d' os).heap[k]? = if k < W.heap.size then (if b = k then some (.cells (putCells encSm 0 d' cur) E (0, 0)) else W.heap[k]?) else (W.heap.modify b (onCells (putCells encSm 0 d')) ++ os)[k]? := by
      intro k
      have e0 : (sortWorld encSm W b 0 n d' os).heap = W.heap.modify b (onCells (putCells encSm 0 d')) ++ os := rfl
      rw [e0]
      by_cases hk : k < W.heap.size
      · rw [if_pos hk, Array.getElem?_append_left (by simpa using hk), Array.getElem?_modify]
        by_cases e : b = k
        · rw [if_pos e, if_pos e, ← e, hheap]; rfl
        · rw [if_neg e, if_neg e]
      · rw [if_neg hk]
    refine ⟨rfl, Kd.R_of_own ⟨by simp [encs, sortDesc], .inr ⟨b, cap, putCells encSm 0 d' cur, by rw [(sortDesc_perm l).length_eq], hb, by rw [heap', if_pos hblk, if_pos rfl], by rw [(sortDesc_perm l).length_eq]; exact hcap, hcm, by simpa [putCells] using hcs, ?_⟩⟩ hok, ?_⟩
    · have hle : l.length ≤ cur.size := by omega
      rw [(sortDesc_perm l).length_eq, Nat.mul_one]
      apply List.ext_getElem?
      intro j
      by_cases hj : j < l.length
      · rw [List.getElem?_take, if_pos hj, Array.getElem?_toList]
        unfold putCells encs
        rw [Array.getElem?_mapIdx, List.getElem?_map, ← hv', List.getElem?_map, List.getElem?_eq_getElem (by simpa using (by omega : j < d'.size)), Array.getElem?_eq_getElem (by omega)]
        simp only [Option.map_some]
        rw [if_pos ⟨Nat.zero_le _, by omega⟩, Nat.sub_zero, getElem!_pos d' j (by omega)]
        simp [encSm]
      · rw [List.getElem?_eq_none (by rw [List.length_take]; omega), List.getElem?_eq_none (by simp [encs, (sortDesc_perm l).length_eq]; omega)]
    · refine HB.trans ⟨rfl, rfl, rfl, ?_, fun k hk => ?_⟩
      · show W.heap.size ≤ (W.heap.modify b (onCells (putCells encSm 0 d')) ++ os).size
        simp
      · rw [heap', if_pos (by have := HB.size; omega), if_neg (by omega)]
end Go.Proofs.Ytmbldnoepjmhhaa.Plain
end
section
/- What slices.SortFunc with a closure that takes differences of keys leaves of a row of whole numbers. Plain: no program in sight. -/
namespace Go.Proofs.Ytmbldnoepjmhhaa.Plain
open Go.RowKit Go.Sort Go.Shelf Go.Proofs.YtmbldnoepjmhhaaW.PrintWords
def encIn {l : List Int} (x : {x : Int // x ∈ l}) : Value := .int .i64 x.1
def cfIn (key : Int → Int) {l : List Int} (x y : {x : Int // x ∈ l}) : Int := key x.1 - key y.1
theorem lt_cfIn (key : Int → Int) {l : List Int} (x y : {x : Int // x ∈ l}) : ltOf (cfIn key) x y = decide (key x.1 < key y.1) := by
  unfold ltOf cfIn
  rw [Bool.eq_iff_iff]
  simp only [decide_eq_true_eq]
  omega
theorem swo_cfIn (key : Int → Int) {l : List Int} : SWO (ltOf (cfIn key (l := l))) where
  irrefl x := by rw [lt_cfIn]; simp
  trans x y z h1 h2 := by rw [lt_cfIn] at *; simp at *; omega
  ntrans x y z h1 h2 := by rw [lt_cfIn] at *; simp at *; omega
theorem keyed_of (key : Int → Int) {l : List Int} [Inhabited {x : Int // x ∈ l}] (hk : ∀ x ∈ l, ∀ y ∈ l, key x = key y → x = y) {d d' : Array {x : Int // x ∈ l}} (hd : d.toList.map (·.1) = l) (hp : PermIn 0 d.size d d') (hs : SortedIn (ltOf (cfIn key)) 0 d.size d') : d'.toList.map (·.1) = sortKey key l := by
  obtain ⟨h0, _, h2⟩ := hp
  have e : d'.size = d.size := h0
  have h2' : d'.toList.Perm d.toList := by
    have a : (d'.extract 0 d.size).toList = d'.toList := by rw [← e]; simp
    have b : (d.extract 0 d.size).toList = d.toList := by simp
    rw [a, b] at h2
    exact h2
  have hpl : (d'.toList.map (·.1)).Perm l := by
    have h3 := h2'.map (fun x : {x : Int // x ∈ l} => x.1)
    rw [hd] at h3
    exact h3
  refine key_unique key (fun x hx y hy => hk x (hpl.subset hx) y (hpl.subset hy)) (hpl.trans (sortKey_perm key l).symm) ?_ (sortKey_sorted key l)
  rw [List.pairwise_map, List.pairwise_iff_getElem]
  intro i j hi hj hij
  have := hs i j (Nat.zero_le _) hij (by simpa [e] using hj)
  rw [lt_cfIn] at this
  simp only [decide_eq_false_iff_not, Int.not_lt] at this
  have gi : d'[i]! = d'.toList[i] := by
    rw [getElem!_pos d' i (by simpa using hi)]; simp
  have gj : d'[j]! = d'.toList[j] := by
    rw [getElem!_pos d' j (by simpa using hj)]; simp
  rw [gi, gj] at this
  exact this
set_option maxHeartbeats 1000000 in
theorem sortKey_row {P : Program} {ρ : Ren} (L : SlLaysF.n6 P ρ) (g : Nat) (cb : Array Value) (eg : ∀ args w, (callFunc g args).run P w = .ok (.enter g args) w) (key : Int → Int)
    {w W : World} {E base : Nat} {ok : Nat → Prop} {A : Option Addr} {c : Nat} {l : List Int} (h : Kd.R (Kd.int .i64) E W base ok (.slice A l.length c) l) (hbase : w.heap.size ≤ base) (HB : Below w.heap.size w W) (hl0 : 0 < l.length) (hmax : l.length < 4611686018427387904)
    (hk : ∀ x ∈ l, ∀ y ∈ l, key x = key y → x = y)
    (hc : ∀ W' : World, (∀ k, k < W.heap.size → some k ≠ (Value.slice A l.length c).ownBlock → W'.heap[k]? = W.heap[k]?) → ∀ x ∈ l, ∀ y ∈ l, Calls P g (#[.int .i64 x, .int .i64 y] ++ cb) W' fun e w' => e = .returned (.int .i64 (key x - key y)) ∧ ∃ q, w' = W'.drewN q) :
    Calls P (ρ.f 6) #[.slice A l.length c, .func (.func g) #[] cb] W fun e w' => e = .returned (.tuple #[]) ∧ Kd.R (Kd.int .i64) E w' base ok (.slice A l.length c) (sortKey key l) ∧ Below w.heap.size w w' ∧ ∀ k, k < W.heap.size → some k ≠ (Value.slice A l.length c).ownBlock → w'.heap[k]? = W.heap[k]? := by
  have hown := Kd.own_of_R h
  have hok := h.1
  obtain ⟨_, ⟨he, hl1⟩ | ⟨b, cap, cur, he, hb, hheap, hcap, hcm, hcs, htake⟩⟩ := hown
  · omega
  · injection he with e1 _ e3
    subst e1; subst e3
    have inst : Inhabited {x : Int // x ∈ l} := ⟨⟨l[0], List.getElem_mem hl0⟩⟩
    obtain ⟨dl, hdl⟩ : ∃ dl : List {x : Int // x ∈ l}, dl.map (·.1) = l := ⟨l.attach, List.attach_map_subtype_val l⟩
    have hlen : dl.length = l.length := by
      have := congrArg List.length hdl
      simpa using this
    have hblk : b < W.heap.size := by
      rw [Array.getElem?_eq_some_iff] at hheap
      exact hheap.1
    have hget : ∀ j (hj : j < dl.length), (dl.toArray)[j]! = dl[j] := fun j hj => by
      rw [getElem!_pos dl.toArray j (by simpa using hj)]; simp
    have hH : Holds encIn W b 0 dl.toArray := by
      intro j hj
      have hj' : j < dl.length := by simpa using hj
      obtain ⟨h1, h2⟩ := Kd.R_celln 0 h (j : Int) (by omega) (by omega)
      rw [Int.toNat_natCast] at h1 h2
      rw [Nat.zero_add]
      refine ⟨?_, h2⟩
      rw [h1, hget j hj']
      congr 1
      show Value.int .i64 (rdOf 0 l (j : Int)) = Value.int .i64 (dl[j]).1
      congr 1
      have e5 : l[j]'(by omega) = (dl[j]).1 := by
        have := congrArg (fun z => z[j]?) hdl
        simp only [List.getElem?_map, List.getElem?_eq_getElem hj', List.getElem?_eq_getElem (show j < l.length by omega), Option.map_some] at this
        exact (Option.some.inj this).symm
      unfold rdOf
      rw [Int.toNat_natCast, List.getD_eq_getElem?_getD, List.getElem?_eq_getElem (show j < l.length by omega), ← e5]
      rfl
    have hsz : dl.toArray.size = l.length := by simpa using hlen
    have heapOf : ∀ (m : Nat) (d' : Array {x : Int // x ∈ l}) (os : Array Obj) k, (sortWorld encIn W b 0 m d' os).heap[k]? = if k < W.heap.size then (if b = k then some (.cells (putCells encIn 0 d' cur) E (0, 0)) else W.heap[k]?) else (W.heap.modify b (onCells (putCells encIn 0 d')) ++ os)[k]? := by
      intro m d' os k
      have e0 : (sortWorld encIn W b 0 m d' os).heap = W.heap.modify b (onCells (putCells encIn 0 d')) ++ os := rfl
      rw [e0]
      by_cases hk : k < W.heap.size
      · rw [if_pos hk, Array.getElem?_append_left (by simpa using hk), Array.getElem?_modify]
        by_cases e : b = k
        · rw [if_pos e, if_pos e, ← e, hheap]; rfl
        · rw [if_neg e, if_neg e]
      · rw [if_neg hk]
    have hob : ∀ k, some k ≠ (Value.slice (some (⟨b, 0, none⟩ : Addr)) l.length c).ownBlock → b ≠ k := fun k hk e => hk (by subst e; rfl)
    have hcon := Any.slices_SortFunc L encIn (fun _ => rfl) (cfIn key) (swo_cfIn key) g cb b 0 c dl.toArray W eg
      (fun m os dk _ x y => (hc (sortWorld encIn W b 0 m dk os) (fun k hk hne => by rw [heapOf, if_pos hk, if_neg (hob k hne)]) x.1 x.2 y.1 y.2).mono fun _ _ ⟨he, q, hq⟩ => ⟨he, q, #[], by rw [hq, grow_empty]⟩) hH hblk (by omega)
    rw [hsz] at hcon
    refine hcon.mono ?_
    rintro e w' ⟨rfl, d', n, os, hp, hso, rfl⟩
    have hv' : d'.toList.map (·.1) = sortKey key l := keyed_of key hk (d := dl.toArray) (by simpa using hdl) (by rw [hsz]; exact hp) (by rw [hsz]; exact hso)
    have hd' : d'.size = l.length := by have := hp.1; omega
    have hpl := (sortKey_perm key l).length_eq
    refine ⟨rfl, Kd.R_of_own ⟨by simp [encs, hpl], .inr ⟨b, c, putCells encIn 0 d' cur, by rw [hpl], hb, by rw [heapOf, if_pos hblk, if_pos rfl], by rw [hpl]; exact hcap, hcm, by simpa [putCells] using hcs, ?_⟩⟩ hok, ?_, ?_⟩
    · have hle : l.length ≤ cur.size := by omega
      rw [hpl, Nat.mul_one]
      apply List.ext_getElem?
      intro j
      by_cases hj : j < l.length
      · rw [List.getElem?_take, if_pos hj, Array.getElem?_toList]
        unfold putCells encs
        rw [Array.getElem?_mapIdx, List.getElem?_map, ← hv', List.getElem?_map, List.getElem?_eq_getElem (by simpa using (by omega : j < d'.size)), Array.getElem?_eq_getElem (by omega)]
        simp only [Option.map_some]
        rw [if_pos ⟨Nat.zero_le _, by omega⟩, Nat.sub_zero, getElem!_pos d' j (by omega)]
        simp [encIn]
      · rw [List.getElem?_eq_none (by rw [List.length_take]; omega), List.getElem?_eq_none (by simp [encs, hpl]; omega)]
    · refine HB.trans ⟨rfl, rfl, rfl, ?_, fun k hk => ?_⟩
      · show W.heap.size ≤ (W.heap.modify b (onCells (putCells encIn 0 d')) ++ os).size
        simp
      · rw [heapOf, if_pos (by have := HB.size; omega), if_neg (by omega)]
    · intro k hk hne
      rw [heapOf, if_pos hk, if_neg (hob k hne)]
end Go.Proofs.Ytmbldnoepjmhhaa.Plain
end
