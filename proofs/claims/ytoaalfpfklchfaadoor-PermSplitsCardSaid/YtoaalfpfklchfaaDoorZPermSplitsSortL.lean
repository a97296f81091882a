/- slices.SortFunc as perm.Type calls it: laid at this program. -/
import Derived.Test.YtoaalfpfklchfaaDoorZPermSplitsSortB
import Derived.Test.YtoaalfpfklchfaaDoorProg
import Derived.WalkKit
import Derived.KernelRfl
import Derived.Tactics
namespace Go.Proofs.YtoaalfpfklchfaaDoor.Plain
set_option linter.unusedVariables false
set_option linter.unusedSimpArgs false
open Go.RowKit Go.Sort Go.Shelf Go.Proofs.YtoaalfpfklchfaaDoorW.PrintWords
def sortK_ren : Go.Shelf.Ren := ⟨fun | 6 => 66 | 15 => 77 | 14 => 76 | 28 => 91 | 29 => 92 | 20 => 83 | 21 => 84 | 22 => 85 | 23 => 86 | 24 => 87 | 25 => 88 | 26 => 89 | 27 => 90 | 46 => 95 | 47 => 96 | 48 => 97 | 49 => 98 | 50 => 99 | 57 => 106 | n => n, fun | 22 => 22 | 24 => 3 | 25 => 54 | 3 => 3 | 39 => 85 | 0 => 0 | 53 => 101 | 55 => 103 | 4 => 4 | 46 => 94 | 45 => 93 | 50 => 98 | 5 => 5 | 9 => 9 | 66 => 109 | 70 => 113 | 76 => 121 | 77 => 88 | n => n, fun | n => n⟩
theorem sortK : Go.Proofs.SlLaysF.n6 Tryd.prog sortK_ren := ⟨(by kernel_rfl),
  ⟨Tryd.f66.name, by decide, Tryd.func66.trans (congrArg some (by kernel_rfl))⟩,
  ⟨Tryd.f76.name, by decide, Tryd.func76.trans (congrArg some (by kernel_rfl))⟩,
  Tryd.func77.trans (congrArg some (by kernel_rfl)),
  ⟨Tryd.f83.name, by decide, Tryd.func83.trans (congrArg some (by kernel_rfl))⟩,
  ⟨Tryd.f84.name, by decide, Tryd.func84.trans (congrArg some (by kernel_rfl))⟩,
  ⟨Tryd.f85.name, by decide, Tryd.func85.trans (congrArg some (by kernel_rfl))⟩,
  ⟨Tryd.f86.name, by decide, Tryd.func86.trans (congrArg some (by kernel_rfl))⟩,
  ⟨Tryd.f87.name, by decide, Tryd.func87.trans (congrArg some (by kernel_rfl))⟩,
  ⟨Tryd.f88.name, by decide, Tryd.func88.trans (congrArg some (by kernel_rfl))⟩,
  ⟨Tryd.f89.name, by decide, Tryd.func89.trans (congrArg some (by kernel_rfl))⟩,
  ⟨Tryd.f90.name, by decide, Tryd.func90.trans (congrArg some (by kernel_rfl))⟩,
  Tryd.func91.trans (congrArg some (by kernel_rfl)),
  Tryd.func92.trans (congrArg some (by kernel_rfl)),
  ⟨Tryd.f95.name, by decide, Tryd.func95.trans (congrArg some (by kernel_rfl))⟩,
  Tryd.func96.trans (congrArg some (by kernel_rfl)),
  Tryd.func97.trans (congrArg some (by kernel_rfl)),
  ⟨Tryd.f98.name, by decide, Tryd.func98.trans (congrArg some (by kernel_rfl))⟩,
  ⟨Tryd.f99.name, by decide, Tryd.func99.trans (congrArg some (by kernel_rfl))⟩,
  ⟨Tryd.f106.name, by decide, Tryd.func106.trans (congrArg some (by kernel_rfl))⟩,
  Tryd.underlying0,
  Tryd.isAgg0,
  Tryd.sizeOf0,
  Tryd.zeroValue0,
  Tryd.underlying3,
  Tryd.isAgg3,
  Tryd.sizeOf3,
  Tryd.zeroValue3,
  Tryd.underlying4,
  Tryd.isAgg4,
  Tryd.sizeOf4,
  Tryd.zeroValue4,
  Tryd.underlying5,
  Tryd.isAgg5,
  Tryd.sizeOf5,
  Tryd.zeroValue5,
  Tryd.underlying9,
  Tryd.isAgg9,
  Tryd.sizeOf9,
  Tryd.zeroValue9,
  Tryd.underlying22,
  Tryd.isAgg22,
  Tryd.sizeOf22,
  Tryd.zeroValue22,
  Tryd.isAgg3,
  Tryd.sizeOf3,
  Tryd.underlying54,
  Tryd.isAgg54,
  Tryd.sizeOf54,
  Tryd.zeroValue54,
  Tryd.underlying85,
  Tryd.isAgg85,
  Tryd.sizeOf85,
  Tryd.zeroValue85,
  Tryd.underlying93,
  Tryd.isAgg93,
  Tryd.sizeOf93,
  Tryd.zeroValue93,
  Tryd.underlying94,
  Tryd.isAgg94,
  Tryd.sizeOf94,
  Tryd.zeroValue94,
  Tryd.underlying98,
  Tryd.isAgg98,
  Tryd.sizeOf98,
  Tryd.zeroValue98,
  Tryd.underlying101,
  Tryd.isAgg101,
  Tryd.sizeOf101,
  Tryd.zeroValue101,
  Tryd.underlying103,
  Tryd.isAgg103,
  Tryd.sizeOf103,
  Tryd.zeroValue103,
  Tryd.underlying109,
  Tryd.isAgg109,
  Tryd.sizeOf109,
  Tryd.zeroValue109,
  Tryd.underlying113,
  Tryd.isAgg113,
  Tryd.sizeOf113,
  Tryd.zeroValue113,
  Tryd.underlying121,
  Tryd.isAgg121,
  Tryd.sizeOf121,
  Tryd.zeroValue121,
  Tryd.underlying88,
  Tryd.isAgg88,
  Tryd.sizeOf88,
  Tryd.zeroValue88⟩
theorem typeDown (x y : Sm) (W : World) : Calls Tryd.prog 67 #[.int .i64 x.1, .int .i64 y.1] W fun e w' => e = .returned (.int .i64 (y.1 - x.1)) ∧ ∃ q, w' = W.drewN q := by
  obtain ⟨x, hx0, hx1⟩ := x
  obtain ⟨y, hy0, hy1⟩ := y
  go_enter Tryd.func67, Tryd.ntmps67
  go_wp2
  go_ret
  refine ⟨?_, 0, rfl⟩
  first | rfl | (congr 2; first | rfl | (unfold wrap64; omega))
set_option maxHeartbeats 2000000 in
theorem insNone (fv : Value) (w : World) : Calls Tryd.prog 83 #[.slice none 0 0, .int .i64 0, .int .i64 0, fv] w fun e w' => e = .returned (.tuple #[]) ∧ w' = w := by
  go_enter Tryd.func83, Tryd.ntmps83
  go_wp2
  refine wp_loop_rounds 1 ?_
  rw [rounds_succ]
  go_wp2
  go_end0
  exact ⟨rfl, rfl⟩
set_option maxHeartbeats 2000000 in
theorem pdqNone (lim : Int) (fv : Value) (w : World) : Calls Tryd.prog 76 #[.slice none 0 0, .int .i64 0, .int .i64 0, .int .i64 lim, fv] w fun e w' => e = .returned (.tuple #[]) ∧ w' = w := by
  go_enter Tryd.func76, Tryd.ntmps76
  go_wp2
  refine wp_loop_rounds 1 ?_
  rw [rounds_succ]
  go_wp2_with (go_at_call 83; refine (insNone _ _).mono ?_; rintro e w' ⟨rfl, rfl⟩)
  (try simp only [Exit.inBlock, Exit.then]); refine bodyPost_ret (results_none rfl _ _ _) rfl ?_
  exact ⟨rfl, rfl⟩
theorem lenNone (W : World) : Calls Tryd.prog 77 #[.int .u64 0] W fun e w' => (∃ l : Int, e = .returned (.int .i64 l)) ∧ w' = W := by
  have L := sortK
  have h := Any.bits_Len (SlLaysF0.n15.bits (P := Tryd.prog) (ρ := sortK_ren) { L with }) 0 W (by omega) (by omega)
  exact h.mono fun _ _ ⟨he, hw⟩ => ⟨⟨_, he⟩, hw⟩
set_option maxHeartbeats 2000000 in
theorem typeNone (W : World) : Calls Tryd.prog 66 #[.slice none 0 0, .func (.func 67) #[] #[]] W fun e w' => e = .returned (.tuple #[]) ∧ w' = W := by
  go_enter Tryd.func66, Tryd.ntmps66
  go_wp2_with (first | (go_at_call 77; refine (lenNone _).mono ?_; rintro e w' ⟨⟨ll, rfl⟩, rfl⟩) | (go_at_call 76; refine (pdqNone _ _ _).mono ?_; rintro e w' ⟨rfl, rfl⟩))
  go_end0
  exact ⟨rfl, rfl⟩
theorem typeSort {w W : World} {E base : Nat} {ok : Nat → Prop} {u : Value} {l : List Int} (h : Kd.R (Kd.int .i64) E W base ok u l) (hbase : w.heap.size ≤ base) (HB : Below w.heap.size w W) (hs : smallAll l = true) :
    Calls Tryd.prog 66 #[u, .func (.func 67) #[] #[]] W fun e w' => e = .returned (.tuple #[]) ∧ Kd.R (Kd.int .i64) E w' base ok u (sortDesc l) ∧ Below w.heap.size w w' :=
  sortFunc_row sortK 67 (enters_of Tryd.func67 (by kernel_rfl) rfl) typeDown typeNone h hbase HB hs
end Go.Proofs.YtoaalfpfklchfaaDoor.Plain
