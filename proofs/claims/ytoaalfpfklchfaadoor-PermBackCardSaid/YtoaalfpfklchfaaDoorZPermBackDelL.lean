/- slices.Delete over a row of whole numbers of the call's own, and a make with a capacity of its own: laid at this program. -/
import Derived.Test.YtoaalfpfklchfaaDoorZPermBackWMore
import Derived.Test.YtoaalfpfklchfaaDoorProg
import Derived.Shelf.SlicesE.Delete
import Derived.Shelf.SlicesE.Kit
import Derived.WalkKit
import Derived.KernelRfl
import Derived.Tactics
namespace Go.Proofs.YtoaalfpfklchfaaDoor.Plain
set_option linter.unusedVariables false
set_option linter.unusedSimpArgs false
open Go.RowKit Go.Sort Go.Shelf Go.Proofs.YtoaalfpfklchfaaDoorW.PrintWords
def delK_ren : Go.Shelf.Ren := ⟨fun | 45 => 62 | n => n, fun | 22 => 23 | 23 => 3 | 3 => 3 | 4 => 4 | 0 => 0 | n => n, fun | n => n⟩
theorem delK : Go.Proofs.SlLaysE.n45 Tryd.prog delK_ren := ⟨(by kernel_rfl),
  ⟨Tryd.f62.name, by decide, Tryd.func62.trans (congrArg some (by kernel_rfl))⟩,
  Tryd.underlying0,
  Tryd.isAgg0,
  Tryd.sizeOf0,
  Tryd.zeroValue0,
  Tryd.underlying3,
  Tryd.isAgg3,
  Tryd.sizeOf3,
  Tryd.zeroValue3,
  Tryd.underlying4,
  Tryd.isAgg4,
  Tryd.sizeOf4,
  Tryd.zeroValue4,
  Tryd.underlying23,
  Tryd.isAgg23,
  Tryd.sizeOf23,
  Tryd.zeroValue23,
  Tryd.isAgg3,
  Tryd.sizeOf3⟩
theorem delZero : ∀ w, (zeroValue 3).run Tryd.prog w = .ok (.int .i64 0) w := Tryd.zeroValue3
/-- slices.Delete: the members from i on, up to j, are taken out, in place. -/
theorem deleteRow {E g c base : Nat} {w0 W : World} {ok : Nat → Prop} {l : List Int} {n : Nat} (i j : Int) (h : Kd.R (Kd.int .i64) E W base ok (.slice (some ⟨g, 0, none⟩) n c) l) (HB : Below base w0 W)
    (hi : 0 ≤ i) (hij : i ≤ j) (hj : j ≤ (l.length : Int)) (hh : i < (l.length : Int)) :
    Calls Tryd.prog 62 #[.slice (some ⟨g, 0, none⟩) n c, .int .i64 i, .int .i64 j] W fun e w' => e = .returned (.slice (some ⟨g, 0, none⟩) (l.take i.toNat ++ l.drop j.toNat).length c) ∧
      Kd.R (Kd.int .i64) E w' base ok (.slice (some ⟨g, 0, none⟩) (l.take i.toNat ++ l.drop j.toNat).length c) (l.take i.toNat ++ l.drop j.toNat) ∧ Below base w0 w' ∧ W.grownBy w' (some g) := by
  obtain ⟨I, rfl⟩ : ∃ I : Nat, i = (I : Int) := ⟨i.toNat, by omega⟩
  obtain ⟨J, rfl⟩ : ∃ J : Nat, j = (J : Int) := ⟨j.toNat, by omega⟩
  simp only [Int.toNat_natCast]
  have hown := Kd.own_of_R h
  have hok := h.1
  obtain ⟨_, ⟨hv, hl0⟩ | ⟨b, cap, cur, hv, hb, hheap, hcap, hcm, hcs, htake⟩⟩ := hown
  · cases hv
  · injection hv with e1 e2 e3
    injection e1 with e1
    injection e1 with e1
    subst e1 e2 e3
    have hH : Holds (Value.int .i64) W g 0 l.toArray := by
      intro k hk
      have hk' : k < l.length := by simpa using hk
      obtain ⟨h1, h2⟩ := Kd.R_celln 0 h (k : Int) (by omega) (by omega)
      rw [Int.toNat_natCast] at h1 h2
      rw [Nat.zero_add]
      refine ⟨?_, h2⟩
      rw [h1]
      congr 1
      show Value.int .i64 (rdOf 0 l (k : Int)) = Value.int .i64 _
      congr 1
      unfold rdOf
      rw [Int.toNat_natCast, getElem!_pos l.toArray k hk, List.getD_eq_getElem?_getD, List.getElem?_eq_getElem hk']
      simp
    have hinf : (Tryd.prog.info? 3).map (fun i => i.size) = some 1 := by kernel_rfl
    obtain ⟨i0, hi0, hz⟩ := Option.map_eq_some_iff.1 hinf
    have hcon := AnyE.slices_Delete delK (Value.int .i64) (fun _ => rfl) (0 : Int) (fun w => delZero w) i0 hi0 hz g 0 c I J l.toArray W hH (by simpa using hcap) (by simpa [maxLen] using hcm) (by omega) (by simpa using (by omega : J ≤ l.length))
    have hsz : l.toArray.size = l.length := by simp
    rw [hsz] at hcon
    refine hcon.mono ?_
    rintro e w' ⟨rfl, q, rfl⟩
    have hlen : (l.take I ++ l.drop J).length = l.length - (J - I) := by
      rw [List.length_append, List.length_take, List.length_drop]; omega
    generalize hd : (l.toArray.toList.take I ++ l.toArray.toList.drop J ++ List.replicate (J - I) (0 : Int)).toArray = d
    have hds : d.size = l.length := by rw [← hd]; simp; omega
    have heap' : ∀ k, (putRow (Value.int .i64) (Sort.ahead W q) g 0 d).heap[k]? = if g = k then some (.cells (putCells (Value.int .i64) 0 d cur) E (0, 0)) else W.heap[k]? := by
      intro k
      show (W.heap.modify g (onCells (putCells (Value.int .i64) 0 d)))[k]? = _
      rw [Array.getElem?_modify]
      by_cases e : g = k
      · rw [if_pos e, if_pos e, ← e, hheap]; rfl
      · rw [if_neg e, if_neg e]
    have hsize : (putRow (Value.int .i64) (Sort.ahead W q) g 0 d).heap.size = W.heap.size := by
      show (W.heap.modify g _).size = _
      simp
    refine ⟨by rw [hlen], Kd.R_of_own ⟨by simp [encs], .inr ⟨g, c, putCells (Value.int .i64) 0 d cur, rfl, hb, by rw [heap', if_pos rfl], by omega, hcm, by simpa [putCells] using hcs, ?_⟩⟩ (fun k hk => hok k hk), ?_, ?_⟩
    · rw [Nat.mul_one]
      apply List.ext_getElem?
      intro k
      by_cases hk : k < (l.take I ++ l.drop J).length
      · rw [List.getElem?_take, if_pos hk, Array.getElem?_toList]
        unfold putCells encs
        rw [Array.getElem?_mapIdx, List.getElem?_map, List.getElem?_eq_getElem hk, Array.getElem?_eq_getElem (by omega)]
        simp only [Option.map_some]
        rw [if_pos ⟨Nat.zero_le _, by omega⟩, Nat.sub_zero, getElem!_pos d k (by omega)]
        have hdk : d[k]'(by omega) = (l.take I ++ l.drop J)[k] := by
          subst hd
          simp only [List.getElem_toArray]
          rw [List.getElem_append_left (by simpa using hk)]
        rw [hdk]
      · rw [List.getElem?_eq_none (by rw [List.length_take]; omega), List.getElem?_eq_none (by simp only [encs, List.length_map]; omega)]
    · refine HB.trans ⟨rfl, rfl, rfl, by rw [hsize]; exact Nat.le_refl _, fun k hk => ?_⟩
      rw [heap', if_neg (by omega)]
    · refine ⟨rfl, rfl, rfl, by rw [hsize]; exact Nat.le_refl _, fun k _ hne => ?_⟩
      rw [heap', if_neg (fun e => hne (by rw [e]))]
section
variable {P : Program} {ops : Array Oper} {rest : List Oper} {o : Oper} {a : Act} {Q : Exit → Act → World → Prop} {α : Type}
/-- make([]T, 0, n). -/
theorem makeCap (d : Kd α) {w0 W : World} (base e : Nat) (hgd : o.guard = none) {N : Tmp} (hd : o.dst = some N) (t : TypeId) (x y : Operand) (ho : o.op = .makeSlice t x y) (n : Int) (hx : a.eval x = .int .i64 0) (hy : a.eval y = .int .i64 n)
    (ht : P.underlying t = some (.slice e)) (z : Value) (bytes : Nat) (hinfo : (P.info? e).map (fun i => (i.zero, i.size, i.bytes)) = some (some z, d.sz, bytes)) (hz : z.cells.size = d.sz) (hs0 : 0 < d.sz) (hb0 : 0 < bytes)
    (z0 : α) {ok okp : Nat → Prop} (hzero : d.M W base okp z0 z.cells.toList) (hok : ∀ k, okp k → ok k) (hfresh : ok W.heap.size) (h0 : 0 ≤ n) (hl : n.toNat * bytes ≤ 281474976710656) (HB : Below base w0 W) (hbase : base ≤ W.heap.size)
    (h : ∀ v1 w1, d.R e w1 base ok v1 ([] : List α) → Below base w0 w1 → W.grownBy w1 none → (∃ b, v1.ownBlock = some b ∧ W.heap.size ≤ b) → wpList P ops Q rest (a.put o.dst v1) w1) : wpList P ops Q (o :: rest) a W := by
  obtain ⟨m, rfl⟩ := Int.eq_ofNat_of_zero_le h0
  simp only [Int.toNat_natCast] at hl h
  obtain ⟨i0, hi, hzz⟩ := Option.map_eq_some_iff.1 hinfo
  simp only [Prod.mk.injEq] at hzz
  obtain ⟨hz0, hz1, hz2⟩ := hzz
  have hm : m ≤ 281474976710656 := Nat.le_trans (Nat.le_mul_of_pos_right _ hb0) hl
  have hr := run_make (P := P) W t e i0 z ht hi hz0 .i64 .i64 0 (m : Int) (by omega) (by omega)
    (by
      have h3 : ((i0.bytes * m : Nat) : Int) ≤ 281474976710656 := by rw [hz2, Nat.mul_comm]; omega
      rwa [Int.natCast_mul] at h3) (by omega)
  simp only [Int.toNat_natCast] at hr
  rw [hz1] at hr
  have hrep := Kd.reps_made hz hs0 hzero m
  have hrun : (execOp a.eval o).run P W = .ok (.value (.slice (some ⟨W.heap.size, 0, none⟩) 0 m)) (W.alloc (.cells (madeCells z.cells (m * d.sz)) e)) := by
    simp [execOp, ho, hx, hy, hr]
  refine Kd.event_run hgd hrun (h _ _ ?_ (HB.alloc hbase _) (World.grownBy_alloc W _ none) ⟨W.heap.size, by simp [Value.ownBlock], Nat.le_refl _⟩)
  have full : d.R e (W.alloc (.cells (madeCells z.cells (m * d.sz)) e)) base ok (.slice (some ⟨W.heap.size, 0, none⟩) m m) (List.replicate m z0) := by
    refine ⟨fun k hk => ?_, (madeCells z.cells (m * d.sz)).toList, ?_, ?_⟩
    · have : W.heap.size = k := by simpa [Value.ownBlock] using hk
      subst this
      exact hfresh
    · have h2 := World.ownsRow_lit (base := base) (e := e) (size := d.sz) W (madeCells z.cells (m * d.sz)) m hbase (by simpa [maxLen] using (by omega : m ≤ 9223372036854775807)) (by simpa using hrep.1)
      simpa using h2
    · refine hrep.imp_ (fun p c hp => d.M_mono (fun k hk => ⟨hok k hk.1, fun he => ?_⟩) (Kd.M_below (d.M_bound hp) (below_alloc (Below.refl _ _) _)))
      have h3 : k = W.heap.size := by simpa [Value.ownBlock] using he
      have := hk.2.2.1
      omega
  have := Kd.R_take (m := 0) full (Nat.zero_le _)
  rwa [List.take_zero] at this
end
end Go.Proofs.YtoaalfpfklchfaaDoor.Plain
