/- Texts of this claim put together (wip/tools/merge.py). -/
import Derived.Test.YtaaaljifclecnaaZCosetDoublesMg0
import Derived.Test.YtaaaljifclecnaaZCosetDoublesMg1
import Derived.Test.YtaaaljifclecnaaZCosetDoublesMg2
import Derived.WalkKit
import Derived.KernelRfl
import Derived.Tactics
import Derived.Test.YtaaaljifclecnaaZCosetDoublesPBsx0
import Derived.Test.YtaaaljifclecnaaZCosetDoublesPBsx1
import Derived.Test.YtaaaljifclecnaaZCosetDoublesPBsx2
import Derived.Test.YtaaaljifclecnaaZCosetDoublesPRfx1
import Derived.Test.YtaaaljifclecnaaZCosetDoublesPRfx2
import Derived.Test.YtaaaljifclecnaaZCosetDoublesPRfx3
import Derived.Test.YtaaaljifclecnaaZCosetDoublesPGpx0
import Derived.Test.YtaaaljifclecnaaZCosetDoublesPGpx1
set_option linter.unusedVariables false
set_option linter.unusedSimpArgs false
section
/- The walk of Elements and of its closures. -/
namespace Go.Proofs.Ytaaaljifclecnaa.Bs
open Go.RowKit Go.Sort Go.Shelf Go.Proofs.YtaaaljifclecnaaW.PrintWords Go.Proofs.YtaaaljifclecnaaW.PrintLast Go.Proofs.YtaaaljifclecnaaW.PrintMore Go.Proofs.Ytaaaljifclecnaa.Plain Go.Proofs.Ytaaaljifclecnaa.PBs
attribute [local go_sem] max2_int min2_int max_two min_two max_three min_three max_four min_four
def sortK_ren : Go.Shelf.Ren := ⟨fun | 6 => 103 | 15 => 109 | 14 => 108 | 28 => 118 | 29 => 119 | 20 => 110 | 21 => 111 | 22 => 112 | 23 => 113 | 24 => 114 | 25 => 115 | 26 => 116 | 27 => 117 | 46 => 120 | 47 => 121 | 48 => 122 | 49 => 123 | 50 => 124 | 57 => 125 | n => n, fun | 22 => 42 | 24 => 3 | 25 => 134 | 3 => 3 | 39 => 137 | 0 => 0 | 53 => 146 | 55 => 148 | 4 => 4 | 46 => 140 | 45 => 139 | 50 => 90 | 5 => 5 | 9 => 9 | 66 => 149 | 70 => 153 | 76 => 155 | 77 => 156 | n => n, fun | n => n⟩
theorem sortK : Go.Proofs.SlLaysF.n6 Try.prog sortK_ren := ⟨(by kernel_rfl),
  ⟨Try.f103.name, by decide, Try.func103.trans (congrArg some (by kernel_rfl))⟩,
  ⟨Try.f108.name, by decide, Try.func108.trans (congrArg some (by kernel_rfl))⟩,
  Try.func109.trans (congrArg some (by kernel_rfl)),
  ⟨Try.f110.name, by decide, Try.func110.trans (congrArg some (by kernel_rfl))⟩,
  ⟨Try.f111.name, by decide, Try.func111.trans (congrArg some (by kernel_rfl))⟩,
  ⟨Try.f112.name, by decide, Try.func112.trans (congrArg some (by kernel_rfl))⟩,
  ⟨Try.f113.name, by decide, Try.func113.trans (congrArg some (by kernel_rfl))⟩,
  ⟨Try.f114.name, by decide, Try.func114.trans (congrArg some (by kernel_rfl))⟩,
  ⟨Try.f115.name, by decide, Try.func115.trans (congrArg some (by kernel_rfl))⟩,
  ⟨Try.f116.name, by decide, Try.func116.trans (congrArg some (by kernel_rfl))⟩,
  ⟨Try.f117.name, by decide, Try.func117.trans (congrArg some (by kernel_rfl))⟩,
  Try.func118.trans (congrArg some (by kernel_rfl)),
  Try.func119.trans (congrArg some (by kernel_rfl)),
  ⟨Try.f120.name, by decide, Try.func120.trans (congrArg some (by kernel_rfl))⟩,
  Try.func121.trans (congrArg some (by kernel_rfl)),
  Try.func122.trans (congrArg some (by kernel_rfl)),
  ⟨Try.f123.name, by decide, Try.func123.trans (congrArg some (by kernel_rfl))⟩,
  ⟨Try.f124.name, by decide, Try.func124.trans (congrArg some (by kernel_rfl))⟩,
  ⟨Try.f125.name, by decide, Try.func125.trans (congrArg some (by kernel_rfl))⟩,
  Try.underlying0,
  Try.isAgg0,
  Try.sizeOf0,
  Try.zeroValue0,
  Try.underlying3,
  Try.isAgg3,
  Try.sizeOf3,
  Try.zeroValue3,
  Try.underlying4,
  Try.isAgg4,
  Try.sizeOf4,
  Try.zeroValue4,
  Try.underlying5,
  Try.isAgg5,
  Try.sizeOf5,
  Try.zeroValue5,
  Try.underlying9,
  Try.isAgg9,
  Try.sizeOf9,
  Try.zeroValue9,
  Try.underlying42,
  Try.isAgg42,
  Try.sizeOf42,
  Try.zeroValue42,
  Try.isAgg3,
  Try.sizeOf3,
  Try.underlying134,
  Try.isAgg134,
  Try.sizeOf134,
  Try.zeroValue134,
  Try.underlying137,
  Try.isAgg137,
  Try.sizeOf137,
  Try.zeroValue137,
  Try.underlying139,
  Try.isAgg139,
  Try.sizeOf139,
  Try.zeroValue139,
  Try.underlying140,
  Try.isAgg140,
  Try.sizeOf140,
  Try.zeroValue140,
  Try.underlying90,
  Try.isAgg90,
  Try.sizeOf90,
  Try.zeroValue90,
  Try.underlying146,
  Try.isAgg146,
  Try.sizeOf146,
  Try.zeroValue146,
  Try.underlying148,
  Try.isAgg148,
  Try.sizeOf148,
  Try.zeroValue148,
  Try.underlying149,
  Try.isAgg149,
  Try.sizeOf149,
  Try.zeroValue149,
  Try.underlying153,
  Try.isAgg153,
  Try.sizeOf153,
  Try.zeroValue153,
  Try.underlying155,
  Try.isAgg155,
  Try.sizeOf155,
  Try.zeroValue155,
  Try.underlying156,
  Try.isAgg156,
  Try.sizeOf156,
  Try.zeroValue156⟩
theorem goodKeys_at {u l : List Int} (h : goodKeys u l = true) : 0 < l.length ∧ l.length < 1000 ∧ (∀ x ∈ l, 0 ≤ x ∧ x < (u.length : Int) ∧ 0 ≤ rd u x ∧ rd u x < 1000) ∧ ∀ x ∈ l, ∀ y ∈ l, rd u x = rd u y → x = y := by
  unfold goodKeys at h
  simp only [Bool.and_eq_true, decide_eq_true_eq, List.all_eq_true] at h
  obtain ⟨⟨⟨h1, h2⟩, h3⟩, h4⟩ := h
  exact ⟨h1, h2, fun x hx => by have := h3 x hx; omega, fun x hx y hy => h4 x hx y hy⟩
set_option maxHeartbeats 2000000 in
theorem cmp_any (u : List Int) (vu : Value) (b : Nat) (x y : Int) (W : World) (hu : W.cell? ⟨b, 0, none⟩ = some vu) (hp : PermAt W vu u) (hx : 0 ≤ x ∧ x < (u.length : Int) ∧ 0 ≤ rd u x ∧ rd u x < 1000) (hy : 0 ≤ y ∧ y < (u.length : Int) ∧ 0 ≤ rd u y ∧ rd u y < 1000) :
    Calls Try.prog 104 #[.int .i64 x, .int .i64 y, .pointer (some ⟨b, 0, none⟩)] W fun e w' => e = .returned (.int .i64 (rd u x - rd u y)) ∧ ∃ q, w' = W.drewN q := by
  obtain ⟨A, c, rfl, hc, hC⟩ := hp
  obtain ⟨ad, e1, hcx⟩ := Kd.at_int hC x hx.1 hx.2.1
  subst e1
  obtain ⟨ad', e2, hcy⟩ := Kd.at_int hC y hy.1 hy.2.1
  injection e2 with e2
  subst e2
  have t1 : (0 ≤ x) = True := eq_true hx.1
  have t2 : (x < (u.length : Int)) = True := eq_true hx.2.1
  have t3 : (0 ≤ y) = True := eq_true hy.1
  have t4 : (y < (u.length : Int)) = True := eq_true hy.2.1
  have tw : wrap64 (rd u x - rd u y) = rd u x - rd u y := w64_small (by omega) (by omega)
  have tw2 : IntKind.i64.wrap (rd u x - rd u y) = rd u x - rd u y := IntWalk.i64_in _ (by omega)
  clear hx hy hC
  go_enter Try.func104, Try.ntmps104
  go_wp2
  repeat (go_quiet (fail); try go_wp2)
  go_ret
  exact ⟨by first | rfl | rw [tw] | rw [tw2], _, rfl⟩
theorem sort_any {u l : List Int} {vu : Value} {b : Nat} {A : Option Addr} {c base : Nat} {ok : Nat → Prop} {w W : World} (h : Kd.R (Kd.int .i64) 3 W base ok (.slice A l.length c) l) (hbase : w.heap.size ≤ base) (HB : Below w.heap.size w W) (hg : goodKeys u l = true)
    (hst : ∀ W' : World, (∀ k, k < W.heap.size → some k ≠ (Value.slice A l.length c).ownBlock → W'.heap[k]? = W.heap[k]?) → W'.cell? ⟨b, 0, none⟩ = some vu ∧ PermAt W' vu u) :
    Calls Try.prog 103 #[.slice A l.length c, .func (.func 104) #[] #[.pointer (some ⟨b, 0, none⟩)]] W fun e w' => e = .returned (.tuple #[]) ∧ Kd.R (Kd.int .i64) 3 w' base ok (.slice A l.length c) (sortKey (rd u) l) ∧ Below w.heap.size w w' ∧ ∀ k, k < W.heap.size → some k ≠ (Value.slice A l.length c).ownBlock → w'.heap[k]? = W.heap[k]? := by
  obtain ⟨h1, h2, h3, h4⟩ := goodKeys_at hg
  exact sortKey_row sortK 104 #[.pointer (some ⟨b, 0, none⟩)] (enters_of Try.func104 (by kernel_rfl) rfl) (rd u) h hbase HB h1 (by omega) h4
    (fun W' hW' x hx y hy => cmp_any u vu b x y W' (hst W' hW').1 (hst W' hW').2 (h3 x hx) (h3 y hy))
theorem hst3 {u l : List Int} {vu : Value} {w w3 : World} {base : Nat} {ok : Nat → Prop} {A3 : Option Addr} {c3 t : Nat} (HU : Kd.R (Kd.int .i64) 3 w base ok vu u) (HB3 : Below (w.alloc (.cells #[vu] t)).heap.size (w.alloc (.cells #[vu] t)) w3)
    (HR3 : Kd.R (Kd.int .i64) 3 w3 (w.alloc (.cells #[vu] t)).heap.size (fun _ => True) (.slice A3 l.length c3) l) (W' : World)
    (h : ∀ k, k < w3.heap.size → some k ≠ (Value.slice A3 l.length c3).ownBlock → W'.heap[k]? = w3.heap[k]?) : W'.cell? ⟨w.heap.size, 0, none⟩ = some vu ∧ PermAt W' vu u := by
  have hsz : (w.alloc (.cells #[vu] t)).heap.size = w.heap.size + 1 := by simp
  have hb3 : ∀ b, (Value.slice A3 l.length c3).ownBlock = some b → w.heap.size + 1 ≤ b := fun b hb => by have := Kd.R_base HR3 b hb; omega
  have hs3 := HB3.size
  have old : ∀ b, b ≤ w.heap.size → W'.heap[b]? = (w.alloc (.cells #[vu] t)).heap[b]? := fun b hb =>
    (h b (by omega) (fun e => by have := hb3 b e.symm; omega)).trans (HB3.block b (by omega))
  refine ⟨cell_move (w := w.alloc (.cells #[vu] t)) (by rw [World.cell?_alloc_at _ _ _ _ rfl]; rfl) (fun _ => old _ (Nat.le_refl _)), ?_⟩
  exact PermAt.of_R (Kd.R_step HU (fun b _ hlt => (old b (by omega)).trans (Below.heap_alloc _ _ _ hlt)))
theorem fresh_role {W0 w : World} {c bC bo bM : Nat} {σ : Nat → Nat} {vout : Value} {outs : List (List Int)} (h : ElSt W0 c bC bo bM σ w vout outs) {b : Nat} (hb : w.heap.size ≤ b) : σ b = 0 ∧ b ≠ bC ∧ b ≠ bM := by
  have h1 : bC < w.heap.size := World.block_lt_of_cell? w ⟨bC, 0, none⟩ h.cC
  have h2 : bM < w.heap.size := World.block_lt_of_cell? w ⟨bM, 0, none⟩ h.cM
  exact ⟨h.fresh b hb, by omega, by omega⟩
def Mored (W0 : World) (c bC bo bM : Nat) (vu : Value) (σ : Nat → Nat) (w : World) (outs' : List (List Int)) (e : Ending) (w' : World) : Prop :=
  e = .returned (.tuple #[]) ∧ ∃ σ' vout', ElSt W0 c bC bo bM σ' w' vout' outs' ∧ Kp vu σ σ' w w'
set_option maxHeartbeats 16000000 in
set_option maxRecDepth 100000 in
theorem more_any {ρ : Nat → Nat} {W0 : World} {base c capL : Nat} {la : Option Addr} {C : Ch} {d : Nat → LD} (hR : ChainAt ρ W0 base c la capL C d) (bC bo bM : Nat) :
    ∀ (q k : Nat) (u : List Int) (vu : Value) (outs outs' : List (List Int)) (w : World) (σ : Nat → Nat) (vout : Value), ElSt W0 c bC bo bM σ w vout outs → k ≤ C.n → Kd.R (Kd.int .i64) 3 w W0.heap.size (fun b => σ b = 0 ∧ b ≠ bC ∧ b ≠ bM) vu u → more q C k u outs = some outs' →
      Calls Try.prog 101 #[.int .i64 (k : Int), vu, .pointer (some ⟨bC, 0, none⟩), .pointer (some ⟨bo, 0, none⟩), .pointer (some ⟨bM, 0, none⟩)] w (Mored W0 c bC bo bM vu σ w outs') := by
  have HR := Aside0.mk hR
  have hsm := hR.small
  clear hR
  have hmf : ∀ (fn : Fn) (first cap : Array Value) (w : World), (Instr.makeFunc fn first cap).run Try.prog w = .ok (.func fn first cap) w := fun _ _ _ _ => rfl
  intro q
  induction q with
  | zero => intro k u vu outs outs' w σ vout _ _ _ h; cases h
  | succ q ih =>
    intro k u vu outs outs' w σ vout hE hk hu h
    have IH := Aside0.mk ih
    clear ih
    have HE := Aside0.mk hE
    have HU := Aside0.mk hu
    have hcC := hE.cC
    have hcO := hE.cO
    have hfO := hE.fO
    have hn := (HR.out.below hE.bel).hn
    have hl := (HR.out.below hE.bel).hl
    have hlcap := HR.out.hcap
    have hClt : bC < w.heap.size := World.block_lt_of_cell? w ⟨bC, 0, none⟩ hcC
    have hOlt : bo < w.heap.size := World.block_lt_of_cell? w ⟨bo, 0, none⟩ hcO
    have hclt : c < w.heap.size := World.block_lt_of_cell? w ⟨c, 0, none⟩ hn
    obtain ⟨Au, cu, eu⟩ := Kd.R_slice hu
    subst eu
    rw [more] at h
    by_cases hkn : k = C.n
    · rw [if_pos hkn] at h
      by_cases hlen : outs.length < 100000
      · rw [if_pos hlen] at h
        obtain rfl := Option.some.inj h
        have HLEN := Aside0.mk hlen
        have t1 : ((k : Int) == (C.n : Int)) = true := by rw [beq_iff_eq]; omega
        have t2 : (k == C.n) = true := by rw [beq_iff_eq]; exact hkn
        have t3 : (k = C.n) = True := eq_true hkn
        clear h hlen hE hu hk hsm hkn
        go_enter Try.func101, Try.ntmps101
        have HWB := Aside0.mk (below_alloc (Below.refl w.heap.size w) (.cells #[.slice Au u.length cu] 43))
        have HE2 := Aside0.mk (HE.out.below HWB.out)
        have hU0 : ∀ b, (Value.slice Au u.length cu).ownBlock = some b → σ b = 0 ∧ b < (w.alloc (.cells #[.slice Au u.length cu] 43)).heap.size ∧ b ≠ bC ∧ b ≠ bM ∧ W0.heap.size ≤ b := fun b hb => ⟨(HU.out.1 b hb).1, Nat.lt_of_lt_of_le (Kd.R_lt HU.out b hb) HWB.out.size, (HU.out.1 b hb).2.1, (HU.out.1 b hb).2.2, Kd.R_base HU.out b hb⟩
        have HU0 := Aside0.mk hU0
        have HUA := Aside0.mk (Kd.R_below HU.out HWB.out)
        have HNV := Aside0.mk (show some bo ≠ vout.ownBlock from fun e => by have h1 := HE.out.ro _ e.symm; rw [HE.out.bO] at h1; cases h1)
        clear hU0
        go_wp2_with ((with_reducible refine gate_builtin (b := .append) (xs := #[.tmp 17, .tmp 19]) rfl ?_); at_builtin; refine Kd.S_append (Kd.slice 3 (Kd.int .i64)) (w0 := W0) (W := w.alloc (.cells #[.slice Au u.length cu] 43)) W0.heap.size rfl (.tmp 17) (.tmp 19) 22 43 (.slice none 0 0) 24 rfl Try.underlying22 perm_info rfl (by decide) (by omega) vout outs u [.slice Au u.length cu] (fun b => σ b = 1 ∨ σ b = 2 ∨ some b = (Value.slice Au u.length cu).ownBlock ∨ (w.alloc (.cells #[.slice Au u.length cu] 43)).heap.size ≤ b) (fun b => some b = (Value.slice Au u.length cu).ownBlock) rfl ?aX ?aP ?aK ?aF ?aO ?aB ?aS ?aL ?_; (case aX => show Value.slice (some ⟨w.heap.size + 1, 0, none⟩) 1 1 = _; simp); (case aP => exact ⟨_, rfl, Kd.R_tight rfl HUA.out⟩); (case aK => exact fun b hb => ⟨.inr (.inr (.inl hb)), fun e => by have h1 := HE.out.ro b e.symm; have h2 := (HU0.out b hb.symm).1; omega⟩); (case aF => exact fun b hb => .inr (.inr (.inr hb))); (case aO => exact Kd.S_mono HE2.out.row (fun b hb => ⟨hb.elim .inl (fun h => .inr (.inl h)), fun e => by have h2 := (HU0.out b e.symm).1; omega⟩)); (case aB => exact HE2.out.bel); (case aS => exact HE2.out.bel.size); (case aL => have := HLEN.out; omega); intro v1 w1 ho hb hg hat; obtain ⟨Ao1, co1, eo1⟩ := Kd.R_slice (Kd.S_R ho); subst eo1; obtain ⟨σ', E', K'⟩ := HE2.out.push HU0.out ho hb hg hat; have hcO1 := cell_move hcO (fun hlt => (hg.block bo (Nat.lt_of_lt_of_le hlt HWB.out.size) HNV.out).trans (HWB.out.block bo hlt)); have hfO1 := ((World.frozen?_of_block (w := w) (w' := w1) (a := ⟨bo, 0, none⟩) ((hg.block bo (Nat.lt_of_lt_of_le hOlt HWB.out.size) HNV.out).trans (HWB.out.block bo hOlt)))).trans hfO; have el : (outs ++ [u]).length = outs.length + 1 := (by simp); rw [el] at E' K'; have HE3 := Aside0.mk E'; have HK3 := Aside0.mk (K'.pre HWB.out); clear ho hg hat hb E' K' el)
        go_end0
        exact ⟨rfl, σ', _, HE3.out, HK3.out⟩
      · rw [if_neg hlen] at h; cases h
    · rw [if_neg hkn] at h
      replace h := Option.bind_eq_some_iff.1 h
      obtain ⟨L, hL, h⟩ := h
      have HGK : Aside0 (goodKeys u L.orbit = true) := by
        by_cases e : goodKeys u L.orbit = true
        · exact ⟨e⟩
        · rw [if_neg e] at h; cases h
      rw [if_pos HGK.out] at h
      have H := Aside0.mk h
      have hkl : k < C.n := by omega
      have HKL := Aside0.mk hkl
      obtain ⟨bls, ela, rls, hcl⟩ := (HR.out.below hE.bel).ls (by omega)
      subst ela
      have hlev := hcl k hkl
      have hblt : bls < w.heap.size := World.block_lt_of_cell? w ⟨bls, k, none⟩ hlev
      have LV := (HR.out.below hE.bel).lv k L hL
      have hvo := LV.c1
      have hdlt : (d k).bl < w.heap.size := LV.blt
      have t1 : ((k : Int) == (C.n : Int)) = false := by rw [beq_eq_false_iff_ne]; omega
      have t2 : (k == C.n) = false := by rw [beq_eq_false_iff_ne]; exact hkn
      have t3 : (k = C.n) = False := eq_false hkn
      have t4 : ((k : Int) < (C.n : Int)) = True := eq_true (by omega)
      have t5 : (0 ≤ (k : Int)) = True := eq_true (by omega)
      have t6 : (k < C.n) = True := eq_true hkl
      have HL := Aside0.mk hL
      have HWB := Aside0.mk (below_alloc (Below.refl w.heap.size w) (.cells #[.slice Au u.length cu] 43))
      have HVO := Aside0.mk (LV.move (w' := w.alloc (.cells #[.slice Au u.length cu] 43)) (fun _ _ => rfl) (fun b hlt _ => HWB.out.block b hlt)).orb_at
      have hwlt : w.heap.size < (w.alloc (.cells #[.slice Au u.length cu] 43)).heap.size := by simp
      have HWLT := Aside0.mk hwlt
      have HSMM := Aside0.mk hsm
      clear h hE hu hk hsm hkn hkl hcl rls LV hL hwlt
      go_enter Try.func101, Try.ntmps101
      go_wp2_with (first
        | (go_at_call 102; (refine (clone_any HVO.out (by have := (goodKeys_at HGK.out).2.1; omega)).mono ?_); rintro e w3 ⟨v3, rfl, hr3, hb3⟩; have HR3 := Aside0.mk hr3; have HB3 := Aside0.mk hb3; obtain ⟨A3, c3, rfl⟩ := Kd.R_slice hr3; clear hr3 hb3))
      have HST := Aside0.mk (hst3 HU.out HB3.out HR3.out)
      go_wp2_with (first
        | (go_at_call 103; (refine (sort_any (u := u) (vu := .slice Au u.length cu) (b := w.heap.size) (w := w) (ok := fun _ => True) (base := (w.alloc (.cells #[.slice Au u.length cu] 43)).heap.size) HR3.out (Nat.le_of_lt HWLT.out) (below_then HWB.out HWB.out.size HB3.out) HGK.out ?hst).mono ?_); (case hst => exact HST.out); rintro e w4 ⟨rfl, hr4, hb4, hk4⟩; have HR4 := Aside0.mk hr4; have HB4 := Aside0.mk hb4; have HK4 := Aside0.mk hk4; clear hr4 hb4 hk4))
      have hst := HST.out w4 HK4.out
      clear HST
      have HBox := Aside0.mk hst.1
      have HE4 := Aside0.mk (HE.out.below HB4.out)
      have HIm : Aside0 (Kd.R (Kd.int .i64) 3 w4 W0.heap.size (fun b => σ b = 0 ∧ b ≠ bC ∧ b ≠ bM) (.slice A3 L.orbit.length c3) (sortKey (rd u) L.orbit)) := ⟨by
        have h1 := Kd.R_bound HR4.out
        refine Kd.R_lower (Kd.R_mono h1 (fun b hb => ?_)) (Nat.le_trans HE.out.bel.size (Nat.le_of_lt HWLT.out))
        have h2 : w.heap.size ≤ b := Nat.le_trans (Nat.le_of_lt HWLT.out) hb.2.1
        have h3 := World.block_lt_of_cell? w ⟨bM, 0, none⟩ HE.out.cM
        have h4 : bM < w.heap.size := h3
        exact ⟨HE.out.fresh b h2, by omega, by omega⟩⟩
      have HU4 := Aside0.mk (Kd.R_below HU.out HB4.out)
      have HQ4 := Aside0.mk (Kq.of_below (σ := σ) HB4.out)
      have hsl : (sortKey (rd u) L.orbit).length = L.orbit.length := (sortKey_perm _ _).length_eq
      have HSL := Aside0.mk hsl
      have HBX0 : Aside0 (σ w.heap.size = 0) := ⟨HE.out.fresh _ (Nat.le_refl _)⟩
      clear hst hsl hcC hcO hfO hn hl hlev hvo hblt hdlt HVO HR3 HB3 HR4 HB4 HK4 hClt hOlt hclt
      go_loopg [39] L.orbit.length (fun kq v39 w' => ∃ (j : Nat) (σ_ : Nat → Nat) (vout_ : Value) (outs_ : List (List Int)), v39 = .int .i64 (j : Int) ∧ Aside0 (ElSt W0 c bC bo bM σ_ w' vout_ outs_) ∧ Aside0 (Kq σ σ_ w w') ∧ Aside0 (Kd.R (Kd.int .i64) 3 w' W0.heap.size (fun b => σ_ b = 0 ∧ b ≠ bC ∧ b ≠ bM) (.slice A3 L.orbit.length c3) (sortKey (rd u) L.orbit)) ∧ Aside0 (Kd.R (Kd.int .i64) 3 w' W0.heap.size (fun b => σ_ b = 0 ∧ b ≠ bC ∧ b ≠ bM) (.slice Au u.length cu) u) ∧ Aside0 (w'.cell? ⟨w.heap.size, 0, none⟩ = some (.slice Au u.length cu)) ∧ Aside0 (σ_ w.heap.size = 0) ∧ Aside0 (eachM (fun out x => (C.word k x).bind fun o => o.bind fun w => (mulO w u).bind fun u' => more q C (k + 1) u' out) ((sortKey (rd u) L.orbit).drop j) outs_ = some outs') ∧ Aside0 (j + kq = L.orbit.length))
      case atStart => exact ⟨0, σ, vout, outs, (by first | rfl | (simp; done)), HE4, HQ4, HIm, HU4, HBox, HBX0, H, ⟨by omega⟩⟩
      case round =>
        clear HE4 HQ4 HIm HU4 HBox HBX0 H HE HU
        obtain ⟨j, σ_, vout_, outs_, rfl, HE_, HQ_, HIm, HU, HBox, HBX, HA, HJ⟩ := hrel
        have h := HA.out
        clear HA
        cases gk with
        | zero =>
          have hj : (j < L.orbit.length) = False := eq_false (by have := HJ.out; omega)
          rw [List.drop_eq_nil_of_le (by have := HJ.out; have := HSL.out; omega)] at h
          obtain rfl := Option.some.inj h
          clear h
          go_wp2
          go_end0
          exact ⟨rfl, σ_, vout_, HE_.out, HQ_.out.kp _⟩
        | succ m1 =>
          have hjl : j < L.orbit.length := by have := HJ.out; omega
          have hj : (j < L.orbit.length) = True := eq_true hjl
          have hj2 : ((j : Int) < (L.orbit.length : Int)) = True := eq_true (by omega)
          have hj0 : (0 ≤ (j : Int)) = True := eq_true (by omega)
          have HJ2 : Aside0 (j + 1 + m1 = L.orbit.length) := ⟨by have := HJ.out; omega⟩
          have hjs : j < (sortKey (rd u) L.orbit).length := by have := HSL.out; omega
          rw [List.drop_eq_getElem_cons hjs, eachM] at h
          obtain ⟨A3', c3', e3, hc3, hC3⟩ := Kd.R_reads HIm.out
          injection e3 with e3a e3b e3c
          subst e3a; subst e3c
          clear e3b
          obtain ⟨ad3, e3, hcell3⟩ := Kd.at_int hC3 (j : Int) (by omega) (by omega)
          subst e3
          rw [rd_get _ _ hjs, Int.toNat_natCast] at hcell3
          replace h := Option.bind_eq_some_iff.1 h
          obtain ⟨outs2, h1, h⟩ := h
          replace h1 := Option.bind_eq_some_iff.1 h1
          obtain ⟨o, hw, h1⟩ := h1
          replace h1 := Option.bind_eq_some_iff.1 h1
          obtain ⟨wd, ho, h1⟩ := h1
          subst ho
          replace h1 := Option.bind_eq_some_iff.1 h1
          obtain ⟨u', h1, h2⟩ := h1
          obtain ⟨x0, L_, hL_, ho⟩ := word_some hw
          have R := HR.out.below HE_.out.bel
          have LV_ := R.lv k L_ hL_
          obtain ⟨X, hX⟩ : ∃ X : Nat, (sortKey (rd u) L.orbit)[j] = (X : Int) := ⟨(sortKey (rd u) L.orbit)[j].toNat, by omega⟩
          rw [hX] at ho hcell3
          rw [Int.toNat_natCast] at ho
          obtain ⟨hxn, wv, hv, _, hwd⟩ := LV_.word ho
          obtain ⟨aw, cw, ew, hcw, hCw⟩ := hwd.1.addr hwd.2
          rw [ew] at hv
          have hrow := LV_.c2
          have hcM := HE_.out.cM
          have hbox := HBox.out
          have t7 : ((X : Int) < (C.n : Int)) = True := eq_true (by omega)
          have t8 : (0 ≤ (X : Int)) = True := eq_true (by omega)
          have A1' := Aside0.mk h1
          have A2' := Aside0.mk h2
          have H := Aside0.mk h
          have wi : wrap64 ((j : Int) + 1) = ((j + 1 : Nat) : Int) := (IntWalk.wrap64_in _ ⟨by omega, by have := (goodKeys_at HGK.out).2.1; omega⟩).trans (by omega)
          have wk : IntKind.i64.wrap ((k : Int) + 1) = ((k + 1 : Nat) : Int) := (IntWalk.i64_in _ (by have := HKL.out; have := HSMM.out; omega)).trans (by omega)
          have wk2 : wrap64 ((k : Int) + 1) = ((k + 1 : Nat) : Int) := (IntWalk.wrap64_in _ ⟨by omega, by have := HKL.out; have := HSMM.out; omega⟩).trans (by omega)
          clear h h1 h2 hwd ho hX hL_ LV_ hw ew hC3 hc3 R
          go_upto_region 9 with fail
          go_region_with (first
            | (go_at_call 105; (refine (mul_any A1'.out ⟨_, _, rfl, hcw, ?s1⟩ (PermAt.below (w := wr) (PermAt.of_R HU.out) bel0)).mono ?_); (case s1 => exact hCw); rintro e w6 ⟨v6, rfl, hr6, hb6⟩; have HR6 := Aside0.mk hr6; have HB6 := Aside0.mk (below_step (w := wr) bel0 hb6); obtain ⟨A6, c6, rfl⟩ := Kd.R_slice hr6; have hcM6 := cell_move hcM (fun hlt => HB6.out.block _ hlt); clear hr6 hb6)
            | (go_at_call 101; rw [show ((k : Int) + 1) = ((k + 1 : Nat) : Int) from rfl]; (refine (IH.out (k + 1) u' _ outs_ outs2 w6 σ_ vout_ (HE_.out.below HB6.out) HKL.out (Kd.R_lower (Kd.R_mono (Kd.R_bound HR6.out) (fun b hb => fresh_role HE_.out hb.2.1)) HE_.out.bel.size) A2'.out).mono ?_); rintro e w8 ⟨rfl, σ2, vout2, hE2, hK2⟩; have HE2 := Aside0.mk hE2; have HQ2 := Aside0.mk (hK2.quiet HB6.out (fun b hb => Kd.R_base HR6.out b hb)); clear hE2 hK2))
          all_goals
            have HIm2 := Aside0.mk (HQ2.out.row HIm.out)
            have HU2 := Aside0.mk (HQ2.out.row HU.out)
            have HBox2 := Aside0.mk (HQ2.out.cell HBX.out hbox)
            have HQ3 := Aside0.mk (HQ_.out.trans HQ2.out)
            have HBX2 : Aside0 (σ2 w.heap.size = 0) := ⟨(HQ2.out.role _ (World.block_lt_of_cell? wr ⟨w.heap.size, 0, none⟩ hbox)).trans HBX.out⟩
            go_wp2
            go_roundg m1
            case measure => exact Nat.lt_succ_self _
            case rel => exact ⟨j + 1, σ2, vout2, outs2, (by first | rfl | (rw [wi]; done) | (simp [wi]; done)), HE2, HQ3, HIm2, HU2, HBox2, HBX2, H, HJ2⟩
end Go.Proofs.Ytaaaljifclecnaa.Bs
end
section
/- The walk of (*Chain).Elements. -/
namespace Go.Proofs.Ytaaaljifclecnaa.Bs
open Go.RowKit Go.Sort Go.Shelf Go.Proofs.YtaaaljifclecnaaW.PrintWords Go.Proofs.YtaaaljifclecnaaW.PrintLast Go.Proofs.YtaaaljifclecnaaW.PrintMore Go.Proofs.Ytaaaljifclecnaa.Plain Go.Proofs.Ytaaaljifclecnaa.PBs
attribute [local go_sem] max2_int min2_int max_two min_two max_three min_three max_four min_four
def Perms (w0 w' : World) (e : Ending) (E : List (List Int)) : Prop := ∃ v, e = .returned v ∧ Kd.S (Kd.slice 3 (Kd.int .i64)) 43 w' w0.heap.size (fun _ => True) v E ∧ Below w0.heap.size w0 w'
set_option maxHeartbeats 16000000 in
set_option maxRecDepth 100000 in
theorem elements_any {ρ : Nat → Nat} {w : World} {base c capL : Nat} {la : Option Addr} {C : Ch} {d : Nat → LD} {E : List (List Int)} (hR : ChainAt ρ w base c la capL C d) (h : elements C = some E) :
    Calls Try.prog 97 #[.pointer (some ⟨c, 0, none⟩)] w (fun e w' => Perms w w' e E) := by
  have hmf : ∀ (fn : Fn) (first cap : Array Value) (w : World), (Instr.makeFunc fn first cap).run Try.prog w = .ok (.func fn first cap) w := fun _ _ _ _ => rfl
  have hsf : ∀ (a : Addr) (fn : Fn) (first captured : Array Value) (m : Mode) (w : World), (store a (.func fn first captured) m).run Try.prog w = stored Try.prog w a (.func fn first captured) m := fun a fn f c m w => run_store Try.prog w a _ m rfl
  have HR := Aside0.mk hR
  have hn := hR.hn
  have hclt : c < w.heap.size := World.block_lt_of_cell? w ⟨c, 0, none⟩ hn
  have hclt1 : c < w.heap.size + 1 := by omega
  have hclt2 : c < w.heap.size + 1 + 1 := by omega
  have H := Aside0.mk h
  clear hR h
  go_enter Try.func97, Try.ntmps97
  go_upto_region 4 with fail
  have hE0 : ElSt w c w.heap.size (w.heap.size + 1) (w.heap.size + 1 + 1) (fun b => if b = w.heap.size + 1 then 3 else 0) (((w.alloc (.cells #[.pointer (some ⟨c, 0, none⟩)] 103)).alloc (.cells #[.slice none 0 0] 22)).alloc (.cells #[.func (.func 101) #[] #[.pointer (some ⟨w.heap.size, 0, none⟩), .pointer (some ⟨w.heap.size + 1, 0, none⟩), .pointer (some ⟨w.heap.size + 1 + 1, 0, none⟩)]] 131)) (.slice none 0 0) [] := {
    bel := below_alloc (below_alloc (below_alloc (Below.refl _ _) _) _) _
    fresh := fun b hb => if_neg (by simp at hb; omega)
    old := fun b hb => if_neg (by omega)
    bO := if_pos rfl
    cO := by rw [World.cell?_alloc_past _ _ _ (by simp), World.cell?_alloc_at _ _ _ _ (by simp)]; rfl
    fO := by rw [World.frozen?_alloc_past _ _ _ (by simp), World.frozen?_alloc_at _ _ _ _ (by simp)]
    bC0 := if_neg (by omega)
    cC := by rw [World.cell?_alloc_past _ _ _ (by simp; omega), World.cell?_alloc_past _ _ _ (by simp), World.cell?_alloc_at _ _ _ _ rfl]; rfl
    bM0 := if_neg (by omega)
    cM := by rw [World.cell?_alloc_at _ _ _ _ (by simp)]; rfl
    ro := fun b hb => by simp [Value.ownBlock] at hb
    row := Kd.S_nil _ _ _ _ _ }
  have HE0 := Aside0.mk hE0
  have HSM := Aside0.mk HR.out.small
  clear hE0
  go_cut [] (fun wx => ∃ (σ2 : Nat → Nat) (vout2 : Value), Aside0 (ElSt w c w.heap.size (w.heap.size + 1) (w.heap.size + 1 + 1) σ2 wx vout2 E))
  case first =>
    go_region_with (first
      | (go_at_call 95; (refine (id_any C.n (by have := HSM.out; omega) _).mono ?_); rintro e w6 ⟨v6, rfl, hr6, hb6⟩; have HR6 := Aside0.mk hr6; have HB6 := Aside0.mk (below_step (w := (((w.alloc (.cells #[.pointer (some ⟨c, 0, none⟩)] 103)).alloc (.cells #[.slice none 0 0] 22)).alloc (.cells #[.func (.func 101) #[] #[.pointer (some ⟨w.heap.size, 0, none⟩), .pointer (some ⟨w.heap.size + 1, 0, none⟩), .pointer (some ⟨w.heap.size + 1 + 1, 0, none⟩)]] 131))) bel0 hb6); obtain ⟨A6, c6, rfl⟩ := Kd.R_slice hr6; have HE6 := Aside0.mk (HE0.out.below HB6.out); have hcM6 := HE6.out.cM; have hcC6 := HE6.out.cC; have hn6 := (HR.out.below HE6.out.bel).hn; clear hr6 hb6)
      | (go_at_call 101; (refine (more_any HR.out w.heap.size (w.heap.size + 1) (w.heap.size + 1 + 1) 30 0 (idL C.n) _ [] E w6 _ _ HE6.out (Nat.zero_le _) (Kd.R_lower (Kd.R_mono (Kd.R_bound HR6.out) (fun b hb => fresh_role HE0.out hb.2.1)) HE0.out.bel.size) H.out).mono ?_); rintro e w8 ⟨rfl, σ2, vout2, hE2, hK2⟩; have HE2 := Aside0.mk hE2; clear hE2 hK2))
    all_goals
      go_wp2_with fail
      go_meet
      exact ⟨σ2, vout2, HE2⟩
  case rest =>
    obtain ⟨σ2, vout2, HE2⟩ := hcut
    have hcO := HE2.out.cO
    obtain ⟨A2, c2, e2⟩ := Kd.R_slice (Kd.S_R HE2.out.row)
    subst e2
    go_wp2
    go_ret
    exact ⟨_, rfl, Kd.S_mono HE2.out.row (fun _ _ => trivial), HE2.out.bel⟩
end Go.Proofs.Ytaaaljifclecnaa.Bs
end
section
/- The functions Order, Contains, elements and group of package permgroup. -/
namespace Go.Proofs.Ytaaaljifclecnaa.Bs
open Go.RowKit Go.Sort Go.Shelf Go.Proofs.YtaaaljifclecnaaW.PrintWords Go.Proofs.YtaaaljifclecnaaW.PrintLast Go.Proofs.YtaaaljifclecnaaW.PrintMore Go.Proofs.Ytaaaljifclecnaa.Plain Go.Proofs.Ytaaaljifclecnaa.PBs
attribute [local go_sem] max2_int min2_int max_two min_two max_three min_three max_four min_four
theorem PermIn.keep {ρ' : Nat → Nat} {w w' : World} {v : Value} {p : List Int} {N : Nat} (h : PermAt w v p) (hN : w.heap.size ≤ N) (hb : Below N w w') (hρ : ∀ b, b < w.heap.size → ρ' b = 0) : PermIn ρ' w' v p :=
  (permIn_old (ρ := ρ') h hρ).move (fun b hlt hr => ⟨hr, hb.block b (Nat.lt_of_lt_of_le hlt hN)⟩)
theorem ChainAt.lower {ρ : Nat → Nat} {w : World} {base base' c capL : Nat} {la : Option Addr} {C : Ch} {d : Nat → LD} (h : ChainAt ρ w base c la capL C d) (hb : base' ≤ base) : ChainAt ρ w base' c la capL C d where
  len := h.len
  small := h.small
  fresh := h.fresh
  rb := fun b hne => Nat.le_trans hb (h.rb b hne)
  rc := h.rc
  hn := h.hn
  hl := h.hl
  hcap := h.hcap
  ls := h.ls
  lv := fun k L hL => by
    have l := h.lv k L hL
    exact { rl := l.rl, rw' := l.rw', ro := l.ro, rg := l.rg, c1 := l.c1, c2 := l.c2, c3 := l.c3, c0 := l.c0, fr := l.fr, wrd := Kd.R_lower l.wrd hb, wlen := l.wlen, wp := l.wp, orb := Kd.R_lower l.orb hb, gen := Kd.R_lower l.gen hb, glen := l.glen, gp := l.gp }
set_option maxHeartbeats 4000000 in
theorem chain_any (n : Nat) (hn20 : n ≤ 20) (gens : List (List Int)) (A : Option Addr) (cap : Nat) (w : World) (hg : Kd.C (Kd.slice 3 (Kd.int .i64)) w A gens.length gens) (hcap : gens.length ≤ cap) (C : Ch) (h : new_ n gens = some C) :
    Calls Try.prog 76 #[.agg #[.int .i64 (n : Int), .slice A gens.length cap]] w (New n C w) := by
  have hu := Try.underlying24
  have HN := Aside0.mk hn20
  have H := Aside0.mk h
  have HC := Aside0.mk hcap
  have HG := Aside0.mk (Kd.C_below hg (below_alloc (Below.refl w.heap.size w) (.cells #[.int .i64 (n : Int), .slice A gens.length cap] 24)))
  clear hg hn20 h hcap
  go_enter Try.func76, Try.ntmps76
  go_wp2_with (go_at_call 87; (refine (new_any n HN.out gens A cap _ HG.out HC.out C H.out).mono ?_); rintro e w1 ⟨c, la, capL, ρ, d, rfl, hCh, hb1⟩; have HCh := Aside0.mk hCh; have HB1 := Aside0.mk hb1; clear hCh hb1)
  go_ret
  exact ⟨c, la, capL, ρ, d, rfl, HCh.out.lower (by simp), below_step (below_alloc (Below.refl _ _) _) HB1.out⟩
def permgroup_Order.f (k : Nat) (a0_0 : Int) (l0_1 : List (List Int)) : Option (Int × Int) := (permgroup_Check.f k a0_0 l0_1).bind fun e => if e = 0 then (if 0 ≤ a0_0 ∧ a0_0 ≤ 20 then (new_ a0_0.toNat l0_1).bind fun C => some (belowF C 0, 0) else none) else some (0, e)
theorem permgroup_Order.mono : ∀ a0_0 l0_1 k, LeO (permgroup_Order.f k a0_0 l0_1) (permgroup_Order.f (k + 1) a0_0 l0_1) := fun a0_0 l0_1 k => LeO.bind (permgroup_Check.mono _ _ _) (fun _ => LeO.refl _)
set_option maxHeartbeats 4000000 in
set_option maxRecDepth 100000 in
theorem permgroup_Order.calls (k : Nat) (a0_0 : Int) (A0_1 : Option Addr) (c0_1 : Nat) (l0_1 : List (List Int)) (r1 r2 : Int) (w : World) (hr0_1 : Kd.C (Kd.slice 3 (Kd.int .i64)) w A0_1 l0_1.length l0_1) (hc0_1 : l0_1.length ≤ c0_1) (h : permgroup_Order.f k a0_0 l0_1 = some (r1, r2)) :
    Calls Try.prog 50 #[.agg #[.int .i64 a0_0, .slice A0_1 l0_1.length c0_1]] w fun e w' => e = .returned (.tuple #[.int .i64 r1, .int .i64 r2]) ∧ Below w.heap.size w w' := by
  have hu := Try.underlying24
  have HC := Aside0.mk hc0_1
  have HG := Aside0.mk (Kd.C_below hr0_1 (below_alloc (Below.refl w.heap.size w) (.cells #[.int .i64 a0_0, .slice A0_1 l0_1.length c0_1] 24)))
  unfold permgroup_Order.f at h
  replace h := Option.bind_eq_some_iff.1 h
  obtain ⟨e, h1, h⟩ := h
  have A1 := Aside0.mk h1
  clear hr0_1 hc0_1 h1
  by_cases e0 : e = 0
  · rw [if_pos e0] at h
    have hr : 0 ≤ a0_0 ∧ a0_0 ≤ 20 := by
      by_cases hr : 0 ≤ a0_0 ∧ a0_0 ≤ 20
      · exact hr
      · rw [if_neg hr] at h; cases h
    rw [if_pos hr] at h
    obtain ⟨n, rfl⟩ : ∃ n : Nat, a0_0 = (n : Int) := ⟨a0_0.toNat, by omega⟩
    rw [Int.toNat_natCast] at h
    replace h := Option.bind_eq_some_iff.1 h
    obtain ⟨C, h2, h⟩ := h
    obtain ⟨rfl, rfl⟩ := Prod.mk.inj (Option.some.inj h)
    have A2 := Aside0.mk h2
    have HN : Aside0 (n ≤ 20) := ⟨by omega⟩
    obtain ⟨o, ho'⟩ : ∃ o, belowF C 0 = o := ⟨_, rfl⟩
    have ho := Aside0.mk ho'
    rw [ho']
    subst e0
    clear h h2 hr ho'
    go_enter Try.func50, Try.ntmps50
    go_wp2_with (first
      | (go_at_call 73; (refine (permgroup_Check.calls k (n : Int) A0_1 c0_1 l0_1 0 _ HG.out HC.out A1.out).mono ?_); rintro e w1 ⟨rfl, hb1⟩; have HB1 := Aside0.mk (below_step (w := w) (below_alloc (Below.refl _ _) _) hb1); have HG1 := Aside0.mk (Kd.C_below HG.out hb1); have hcx := cell_move (w' := w1) (show (w.alloc (.cells #[.int .i64 (n : Int), .slice A0_1 l0_1.length c0_1] 24)).cell? ⟨w.heap.size, 0, none⟩ = some (.int .i64 (n : Int)) from by rw [World.cell?_alloc_at _ _ _ _ rfl]; rfl) (fun hlt => hb1.block _ hlt); have hcy := cell_move (w' := w1) (show (w.alloc (.cells #[.int .i64 (n : Int), .slice A0_1 l0_1.length c0_1] 24)).cell? ⟨w.heap.size, 1, none⟩ = some (.slice A0_1 l0_1.length c0_1) from by rw [World.cell?_alloc_at _ _ _ _ rfl]; rfl) (fun hlt => hb1.block _ hlt); clear hb1)
      | (go_at_call 76; (refine (chain_any n HN.out l0_1 A0_1 c0_1 _ HG1.out HC.out C A2.out).mono ?_); rintro e w2 ⟨c, la, capL, ρ, d, rfl, hCh, hb2⟩; have HCh := Aside0.mk hCh; have HB2 := Aside0.mk (below_step HB1.out hb2); clear hCh hb2)
      | (go_at_call 77; (refine (order_any HCh.out).mono ?_); rintro e w3 ⟨rfl, hb3⟩; rw [ho.out]; have HB3 := Aside0.mk (below_step HB2.out hb3); clear hb3))
    go_ret2
    exact ⟨rfl, HB3.out⟩
  · rw [if_neg e0] at h
    obtain ⟨rfl, rfl⟩ := Prod.mk.inj (Option.some.inj h)
    have e1 : (e == 0) = false := beq_eq_false_iff_ne.mpr e0
    have e2 : (e != 0) = true := bne_iff_ne.mpr e0
    clear h e0
    go_enter Try.func50, Try.ntmps50
    go_wp2_with (go_at_call 73; (refine (permgroup_Check.calls k a0_0 A0_1 c0_1 l0_1 e _ HG.out HC.out A1.out).mono ?_); rintro e' w1 ⟨rfl, hb1⟩; have HB1 := Aside0.mk (below_step (w := w) (below_alloc (Below.refl _ _) _) hb1); clear hb1)
    go_ret2
    exact ⟨rfl, HB1.out⟩
theorem arg_permIn {ρ : Nat → Nat} {w w1 w' : World} {base c capL : Nat} {la : Option Addr} {C : Ch} {d : Nat → LD} {v : Value} {p : List Int} (h : PermAt w v p) (hC : ChainAt ρ w' base c la capL C d) (hb : Below w.heap.size w w') (hbase : w.heap.size ≤ base) : PermIn ρ w' v p :=
  PermIn.keep h (Nat.le_refl _) hb (fun b hlt => Classical.byContradiction fun hne => by have := hC.rb b hne; omega)
def permgroup_elements.f (a0 : Int) (l1 : List (List Int)) : Option (List (List Int) × Int) := if 0 ≤ a0 ∧ a0 ≤ 20 then (new_ a0.toNat l1).bind fun C => if 5040 < belowF C 0 then some ([], 5) else (elements C).bind fun E => some (E, 0) else none
set_option maxHeartbeats 4000000 in
set_option maxRecDepth 100000 in
theorem permgroup_elements.calls (a0 : Int) (A1 : Option Addr) (c1 : Nat) (l1 : List (List Int)) (r1 : List (List Int)) (r2 : Int) (w : World) (hr1 : Kd.C (Kd.slice 3 (Kd.int .i64)) w A1 l1.length l1) (hc1 : l1.length ≤ c1) (h : permgroup_elements.f a0 l1 = some (r1, r2)) :
    Calls Try.prog 89 #[.int .i64 a0, .slice A1 l1.length c1] w fun e w' => ∃ v0_ : Value, e = .returned (.tuple #[v0_, .int .i64 r2]) ∧ Kd.S (Kd.slice 3 (Kd.int .i64)) 43 w' w.heap.size (fun _ => True) v0_ r1 ∧ Below w.heap.size w w' := by
  have HC := Aside0.mk hc1
  have HG := Aside0.mk hr1
  unfold permgroup_elements.f at h
  have hr : 0 ≤ a0 ∧ a0 ≤ 20 := by
    by_cases hr : 0 ≤ a0 ∧ a0 ≤ 20
    · exact hr
    · rw [if_neg hr] at h; cases h
  rw [if_pos hr] at h
  obtain ⟨n, rfl⟩ : ∃ n : Nat, a0 = (n : Int) := ⟨a0.toNat, by omega⟩
  rw [Int.toNat_natCast] at h
  replace h := Option.bind_eq_some_iff.1 h
  obtain ⟨C, h2, h⟩ := h
  have A2 := Aside0.mk h2
  have HN : Aside0 (n ≤ 20) := ⟨by omega⟩
  obtain ⟨o, ho'⟩ : ∃ o, belowF C 0 = o := ⟨_, rfl⟩
  have ho := Aside0.mk ho'
  rw [ho'] at h
  clear hr1 hc1 hr h2 ho'
  by_cases e0 : 5040 < o
  · rw [if_pos e0] at h
    obtain ⟨rfl, rfl⟩ := Prod.mk.inj (Option.some.inj h)
    have e1 : decide (5040 < o) = true := decide_eq_true e0
    clear h e0
    go_enter Try.func89, Try.ntmps89
    go_wp2_with (first
      | (go_at_call 87; (refine (new_any n HN.out l1 A1 c1 _ HG.out HC.out C A2.out).mono ?_); rintro e w1 ⟨c, la, capL, ρ, d, rfl, hCh, hb1⟩; have HCh := Aside0.mk hCh; have HB1 := Aside0.mk hb1; clear hCh hb1)
      | (go_at_call 77; (refine (order_any HCh.out).mono ?_); rintro e w3 ⟨rfl, hb3⟩; rw [ho.out]; have HB3 := Aside0.mk (below_step HB1.out hb3); clear hb3))
    go_ret2
    exact ⟨_, rfl, Kd.S_nil _ _ _ _ _, HB3.out⟩
  · rw [if_neg e0] at h
    replace h := Option.bind_eq_some_iff.1 h
    obtain ⟨E, h3, h⟩ := h
    obtain ⟨rfl, rfl⟩ := Prod.mk.inj (Option.some.inj h)
    have A3 := Aside0.mk h3
    have e1 : decide (5040 < o) = false := decide_eq_false e0
    clear h e0 h3
    go_enter Try.func89, Try.ntmps89
    go_wp2_with (first
      | (go_at_call 87; (refine (new_any n HN.out l1 A1 c1 _ HG.out HC.out C A2.out).mono ?_); rintro e w1 ⟨c, la, capL, ρ, d, rfl, hCh, hb1⟩; have HCh := Aside0.mk hCh; have HB1 := Aside0.mk hb1; clear hCh hb1)
      | (go_at_call 77; (refine (order_any HCh.out).mono ?_); rintro e w3 ⟨rfl, hb3⟩; rw [ho.out]; have HB3 := Aside0.mk (below_step HB1.out hb3); have HCh3 := Aside0.mk (HCh.out.below hb3); clear hb3)
      | (go_at_call 97; (refine (elements_any HCh3.out A3.out).mono ?_); rintro e w4 ⟨v4, rfl, hS4, hb4⟩; have HS4 := Aside0.mk (Kd.S_lower hS4 HB3.out.size); have HB4 := Aside0.mk (below_step HB3.out hb4); clear hS4 hb4))
    go_ret2
    exact ⟨_, rfl, HS4.out, HB4.out⟩
end Go.Proofs.Ytaaaljifclecnaa.Bs
end
section
/- The walk of sub: are all generators elements? -/
namespace Go.Proofs.Ytaaaljifclecnaa.Bs
open Go.RowKit Go.Sort Go.Shelf Go.Proofs.YtaaaljifclecnaaW.PrintWords Go.Proofs.YtaaaljifclecnaaW.PrintLast Go.Proofs.YtaaaljifclecnaaW.PrintMore Go.Proofs.Ytaaaljifclecnaa.Plain Go.Proofs.Ytaaaljifclecnaa.PBs
attribute [local go_sem] max2_int min2_int max_two min_two max_three min_three max_four min_four
def outIdx (C : Ch) : Nat → List (List Int) → Option Int
  | _, [] => some (-1)
  | i, p :: r => (C.contains p).bind fun b => if b = true then outIdx C (i + 1) r else some (i : Int)
set_option maxHeartbeats 4000000 in
set_option maxRecDepth 100000 in
theorem sub1_any (C : Ch) (p : List Int) (r : Bool) (w : World) (ρ : Nat → Nat) (base c capL bc : Nat) (la : Option Addr) (d : Nat → LD) (v : Value) (hR : ChainAt ρ w base c la capL C d) (hp : PermIn ρ w v p) (hb : w.cell? ⟨bc, 0, none⟩ = some (.pointer (some ⟨c, 0, none⟩))) (h : C.contains p = some r) :
    Calls Try.prog 93 #[v, .pointer (some ⟨bc, 0, none⟩)] w fun e w' => e = .returned (.bool (!r)) ∧ Below w.heap.size w w' := by
  have HR := Aside0.mk hR
  have HP := Aside0.mk hp
  have H := Aside0.mk h
  obtain ⟨A, cv, rfl, _, _⟩ := hp
  clear hR h
  go_enter Try.func93, Try.ntmps93
  go_wp2_with (go_at_call 94; (refine (contains_any C p r _ ρ base c capL la d _ HR.out HP.out H.out).mono ?_); rintro e w3 ⟨rfl, hb3⟩; have HB3 := Aside0.mk hb3; clear hb3)
  go_ret
  exact ⟨rfl, HB3.out⟩
set_option maxHeartbeats 4000000 in
set_option maxRecDepth 100000 in
theorem indexFunc_any (C : Ch) (l : List (List Int)) (r : Int) (w0 w : World) (ρ : Nat → Nat) (base c capL bc : Nat) (la : Option Addr) (d : Nat → LD) (A : Option Addr) (cap : Nat) (hR : ChainAt ρ w base c la capL C d) (hG : Kd.C (Kd.slice 3 (Kd.int .i64)) w0 A l.length l) (hB : Below w0.heap.size w0 w) (hbase : w0.heap.size ≤ base) (hb : w.cell? ⟨bc, 0, none⟩ = some (.pointer (some ⟨c, 0, none⟩))) (h : outIdx C 0 l = some r) :
    Calls Try.prog 98 #[.slice A l.length cap, .func (.func 93) #[] #[.pointer (some ⟨bc, 0, none⟩)]] w fun e w' => e = .returned (.int .i64 r) ∧ Below w.heap.size w w' := by
  have HR := Aside0.mk hR
  have HG := Aside0.mk hG
  have HB0 := Aside0.mk hB
  have HBASE := Aside0.mk hbase
  have HMAX := Aside0.mk hG.2.1
  have HBC := Aside0.mk hb
  have H := Aside0.mk h
  clear hR hG hB hbase h hb
  go_enter Try.func98, Try.ntmps98
  go_wp2
  go_loopg [8] l.length (fun kq v8 w' => ∃ (j : Nat), v8 = .int .i64 (j : Int) ∧ Aside0 (outIdx C j (l.drop j) = some r) ∧ Aside0 (Below w.heap.size w w') ∧ Aside0 (j + kq = l.length))
  case atStart => exact ⟨0, (by first | rfl | (simp; done)), H, ⟨Below.refl _ _⟩, ⟨by omega⟩⟩
  case round =>
    clear H
    obtain ⟨j, rfl, HA, HB, HJ⟩ := hrel
    have h := HA.out
    clear HA
    cases gk with
    | zero =>
      have hj : (j < l.length) = False := eq_false (by have := HJ.out; omega)
      rw [List.drop_eq_nil_of_le (by have := HJ.out; omega)] at h
      obtain rfl := Option.some.inj h
      clear h
      go_wp2
      go_ret
      exact ⟨rfl, HB.out⟩
    | succ m1 =>
      have hjl : j < l.length := by have := HJ.out; omega
      have hj : (j < l.length) = True := eq_true hjl
      have hj2 : ((j : Int) < (l.length : Int)) = True := eq_true (by omega)
      have hj0 : (0 ≤ (j : Int)) = True := eq_true (by omega)
      have HJ2 : Aside0 (j + 1 + m1 = l.length) := ⟨by have := HJ.out; omega⟩
      rw [List.drop_eq_getElem_cons hjl, outIdx] at h
      replace h := Option.bind_eq_some_iff.1 h
      obtain ⟨b, h1, h⟩ := h
      obtain ⟨ad, gv, eA, hcell0, hga⟩ := row_at HG.out (List.getElem?_eq_getElem hjl)
      subst eA
      have HBW := Aside0.mk (below_step HB0.out HB.out)
      have hcell := (World.cell?_of_block (w := w0) (w' := wr) (HBW.out.block _ (World.block_lt_of_cell? w0 _ hcell0))).trans hcell0
      simp only [svE] at hcell
      have HCH := Aside0.mk (HR.out.below HB.out)
      have HGP := Aside0.mk (arg_permIn (w1 := w) hga HCH.out HBW.out HBASE.out)
      simp only [svE] at HGP
      have hbc := cell_move (w' := wr) HBC.out (fun hlt => HB.out.block _ hlt)
      have H1 := Aside0.mk h1
      have wi : wrap64 ((j : Int) + 1) = ((j + 1 : Nat) : Int) := (IntWalk.wrap64_in _ ⟨by omega, by have := HMAX.out; omega⟩).trans (by omega)
      clear h1 hcell0 hga
      by_cases eb : b = true
      · rw [if_pos eb] at h
        have H := Aside0.mk h
        subst eb
        clear h
        go_wp2_with (go_at_call 93; (refine (sub1_any C (l[j]) true _ ρ base c capL bc la d _ HCH.out HGP.out hbc H1.out).mono ?_); rintro e w3 ⟨rfl, hb3⟩; have HB3 := Aside0.mk (below_step HB.out hb3); clear hb3)
        go_roundg m1
        case measure => exact Nat.lt_succ_self _
        case rel => exact ⟨j + 1, (by first | (rw [wi]; done) | rfl), H, HB3, HJ2⟩
      · rw [if_neg eb] at h
        obtain rfl := Option.some.inj h
        have eb2 : b = false := by cases b <;> simp_all
        subst eb2
        clear h eb
        go_wp2_with (go_at_call 93; (refine (sub1_any C (l[j]) false _ ρ base c capL bc la d _ HCH.out HGP.out hbc H1.out).mono ?_); rintro e w3 ⟨rfl, hb3⟩; have HB3 := Aside0.mk (below_step HB.out hb3); clear hb3)
        go_ret
        exact ⟨rfl, HB3.out⟩
set_option maxHeartbeats 4000000 in
set_option maxRecDepth 100000 in
theorem containsFunc_any (C : Ch) (l : List (List Int)) (r : Int) (w0 w : World) (ρ : Nat → Nat) (base c capL bc : Nat) (la : Option Addr) (d : Nat → LD) (A : Option Addr) (cap : Nat) (hR : ChainAt ρ w base c la capL C d) (hG : Kd.C (Kd.slice 3 (Kd.int .i64)) w0 A l.length l) (hB : Below w0.heap.size w0 w) (hbase : w0.heap.size ≤ base) (hb : w.cell? ⟨bc, 0, none⟩ = some (.pointer (some ⟨c, 0, none⟩))) (h : outIdx C 0 l = some r) :
    Calls Try.prog 92 #[.slice A l.length cap, .func (.func 93) #[] #[.pointer (some ⟨bc, 0, none⟩)]] w fun e w' => e = .returned (.bool (decide (r ≥ 0))) ∧ Below w.heap.size w w' := by
  have HR := Aside0.mk hR
  have HG := Aside0.mk hG
  have HB0 := Aside0.mk hB
  have HBASE := Aside0.mk hbase
  have HBC := Aside0.mk hb
  have H := Aside0.mk h
  clear hR hG hB hbase h hb
  go_enter Try.func92, Try.ntmps92
  go_wp2_with (go_at_call 98; (refine (indexFunc_any C l r w0 _ ρ base c capL bc la d A cap HR.out HG.out HB0.out HBASE.out HBC.out H.out).mono ?_); rintro e w3 ⟨rfl, hb3⟩; have HB3 := Aside0.mk hb3; clear hb3)
  go_ret
  exact ⟨by simp, HB3.out⟩
def permgroup_sub.f (a0_0 : Int) (l0_1 : List (List Int)) (a1_0 : Int) (l1_1 : List (List Int)) : Option Bool := if 0 ≤ a1_0 ∧ a1_0 ≤ 20 then (new_ a1_0.toNat l1_1).bind fun C => (outIdx C 0 l0_1).bind fun r => some (!decide (r ≥ 0)) else none
set_option maxHeartbeats 4000000 in
set_option maxRecDepth 100000 in
theorem permgroup_sub.calls (a0_0 : Int) (A0_1 : Option Addr) (c0_1 : Nat) (l0_1 : List (List Int)) (a1_0 : Int) (A1_1 : Option Addr) (c1_1 : Nat) (l1_1 : List (List Int)) (r : Bool) (w : World) (hr0_1 : Kd.C (Kd.slice 3 (Kd.int .i64)) w A0_1 l0_1.length l0_1) (hc0_1 : l0_1.length ≤ c0_1) (hr1_1 : Kd.C (Kd.slice 3 (Kd.int .i64)) w A1_1 l1_1.length l1_1) (hc1_1 : l1_1.length ≤ c1_1) (h : permgroup_sub.f a0_0 l0_1 a1_0 l1_1 = some r) :
    Calls Try.prog 86 #[.agg #[.int .i64 a0_0, .slice A0_1 l0_1.length c0_1], .agg #[.int .i64 a1_0, .slice A1_1 l1_1.length c1_1]] w fun e w' => e = .returned (.bool r) ∧ Below w.heap.size w w' := by
  have hmf : ∀ (fn : Fn) (first cap : Array Value) (w : World), (Instr.makeFunc fn first cap).run Try.prog w = .ok (.func fn first cap) w := fun _ _ _ _ => rfl
  have hu := Try.underlying24
  unfold permgroup_sub.f at h
  have hr : 0 ≤ a1_0 ∧ a1_0 ≤ 20 := by
    by_cases hr : 0 ≤ a1_0 ∧ a1_0 ≤ 20
    · exact hr
    · rw [if_neg hr] at h; cases h
  rw [if_pos hr] at h
  obtain ⟨n, rfl⟩ : ∃ n : Nat, a1_0 = (n : Int) := ⟨a1_0.toNat, by omega⟩
  rw [Int.toNat_natCast] at h
  replace h := Option.bind_eq_some_iff.1 h
  obtain ⟨C, h2, h⟩ := h
  replace h := Option.bind_eq_some_iff.1 h
  obtain ⟨r0, h3, h⟩ := h
  obtain rfl := Option.some.inj h
  have A2 := Aside0.mk h2
  have A3 := Aside0.mk h3
  have HN : Aside0 (n ≤ 20) := ⟨by omega⟩
  have HG0 := Aside0.mk hr0_1
  have HC0 := Aside0.mk hc0_1
  have HG1 := Aside0.mk hr1_1
  have HC1 := Aside0.mk hc1_1
  clear h h2 h3 hr hr0_1 hc0_1 hr1_1 hc1_1
  go_enter Try.func86, Try.ntmps86
  go_wp2_with (first
    | (go_at_call 76; (refine (chain_any n HN.out l1_1 A1_1 c1_1 _ (Kd.C_below HG1.out bel0) HC1.out C A2.out).mono ?_); rintro e w2 ⟨c, la, capL, ρ, d, rfl, hCh, hb2⟩; have HCh := Aside0.mk hCh; have HB2 := Aside0.mk (below_step (w := w) bel0 hb2); have hzz : w.heap.size < w2.heap.size := (by have := hb2.size; simp at this; omega); have hcx := cell_move (w' := w2) (show ((w.alloc (.cells #[.int .i64 a0_0, .slice A0_1 l0_1.length c0_1] 24)).alloc (.cells #[.int .i64 (n : Int), .slice A1_1 l1_1.length c1_1] 24)).cell? ⟨w.heap.size, 1, none⟩ = some (.slice A0_1 l0_1.length c0_1) from by rw [World.cell?_alloc_past _ _ _ (by simp), World.cell?_alloc_at _ _ _ _ rfl]; rfl) (fun hlt => hb2.block _ hlt); clear hCh hb2)
    | (go_at_call 92; (refine (containsFunc_any C l0_1 r0 w _ ρ _ c capL w2.heap.size la d A0_1 c0_1 (HCh.out.below (below_alloc (Below.refl _ _) _)) HG0.out (below_alloc HB2.out _) (by simp; omega) (by rw [World.cell?_alloc_at _ _ _ _ rfl]; rfl) A3.out).mono ?_); rintro e w4 ⟨rfl, hb4⟩; have HB4 := Aside0.mk (below_step (below_alloc HB2.out _) hb4); clear hb4))
  go_ret
  exact ⟨rfl, HB4.out⟩
end Go.Proofs.Ytaaaljifclecnaa.Bs
end
section
/- Groups of permutations as the law functions meet them: checks, orders, conjugates, subgroups. -/
namespace Go.Proofs.Ytaaaljifclecnaa.Pms
open Go.RowKit Go.Proofs.Ytaaaljifclecnaa.Plain Go.Proofs.Ytaaaljifclecnaa.Bs Go.Proofs.YtaaaljifclecnaaW.PrintWords
variable {n : Nat}
theorem chkE_zero {m : Int} {p : List Int} (h : chkE m p = 0) : ∃ (k : Nat) (q : Pm k), m = (k : Int) ∧ k ≤ 20 ∧ q.l = p := by
  unfold chkE at h
  by_cases h1 : chk p = 0
  · rw [if_pos h1] at h
    by_cases h2 : (p.length : Int) = m
    · obtain ⟨hl, hp⟩ := (chk_zero p).1 h1
      exact ⟨p.length, ⟨p, rfl, hp⟩, h2.symm, hl, rfl⟩
    · rw [if_neg h2] at h; omega
  · rw [if_neg h1] at h; exact absurd h h1
theorem chkE_Pm (hn : n ≤ 20) (p : Pm n) : chkE (n : Int) p.l = 0 := by
  unfold chkE
  rw [if_pos ((chk_zero _).2 ⟨by rw [p.len]; exact hn, p.ok⟩), if_pos (by rw [p.len])]
theorem chkE_to {p : List Int} (h : chkE (n : Int) p = 0) : ∃ q : Pm n, q.l = p := by
  obtain ⟨k, q, e, _, h2⟩ := chkE_zero h
  have e : n = k := by omega
  subst e
  exact ⟨q, h2⟩
theorem chkAll_to : ∀ {L : List (List Int)}, chkAll (n : Int) L = 0 → ∃ gens : List (Pm n), gens.map Pm.l = L
  | [], _ => ⟨[], rfl⟩
  | p :: r, h => by
    rw [chkAll] at h
    by_cases h1 : chkE (n : Int) p = 0
    · rw [if_pos h1] at h
      obtain ⟨q, hq⟩ := chkE_to h1
      obtain ⟨g, hg⟩ := chkAll_to h
      exact ⟨q :: g, by rw [List.map_cons, hq, hg]⟩
    · rw [if_neg h1] at h; exact absurd h h1
theorem chkAll_Pm (hn : n ≤ 20) : ∀ gens : List (Pm n), chkAll (n : Int) (gens.map Pm.l) = 0
  | [] => rfl
  | p :: r => by rw [List.map_cons, chkAll, if_pos (chkE_Pm hn p)]; exact chkAll_Pm hn r
theorem chkG_to {d : Int} {L : List (List Int)} (h : chkG d L = 0) : ∃ (n : Nat) (gens : List (Pm n)), d = (n : Int) ∧ n ≤ 20 ∧ gens.map Pm.l = L ∧ L.length ≤ 32 := by
  unfold chkG at h
  split at h
  · cases h
  · split at h
    · cases h
    · split at h
      · cases h
      · obtain ⟨k, rfl⟩ : ∃ k : Nat, d = (k : Int) := ⟨d.toNat, by omega⟩
        obtain ⟨g, hg⟩ := chkAll_to h
        exact ⟨k, g, rfl, by omega, hg, by omega⟩
theorem chkG_Pm (hn : n ≤ 20) (gens : List (Pm n)) (hl : gens.length ≤ 32) : chkG (n : Int) (gens.map Pm.l) = 0 := by
  unfold chkG
  rw [if_neg (by omega), if_neg (by omega), if_neg (by rw [List.length_map]; omega)]
  exact chkAll_Pm hn gens
theorem grp_spec (hn : n ≤ 20) (gens : List (Pm n)) : ∃ (A : AC n) (E : List (Pm n)), new_ n (gens.map Pm.l) = some A.enc ∧ Bs.Good A (Gen gens) ∧ E.Pairwise Lt ∧ (∀ p, p ∈ E ↔ Gen gens p) ∧ belowF A.enc 0 = (E.length : Int) ∧ (E.length < 100000 → elements A.enc = some (E.map Pm.l)) := by
  obtain ⟨A, h1, h2⟩ := new_spec hn gens
  obtain ⟨E, e1, e2, e3, e4⟩ := elements_spec hn h2
  exact ⟨A, E, h1, h2, e1, e2, e3, e4⟩
theorem Lt.nodup {E : List (Pm n)} (h : E.Pairwise Lt) : E.Nodup := h.imp (fun {a b} hab e => by subst e; exact Lt.irrefl a hab)
theorem outIdx_spec {A : AC n} {G : Pm n → Prop} (hn : n ≤ 20) (h : Bs.Good A G) : ∀ (i : Nat) (gens : List (Pm n)), ∃ r : Int, outIdx A.enc i (gens.map Pm.l) = some r ∧ (r ≥ 0 ↔ ¬ ∀ g ∈ gens, G g)
  | i, [] => ⟨-1, rfl, by simp⟩
  | i, g :: r => by
    obtain ⟨b, hb, hb2⟩ := contains_spec hn h g
    rw [List.map_cons, outIdx, hb]
    by_cases e : b = true
    · obtain ⟨x, hx, hx2⟩ := outIdx_spec hn h (i + 1) r
      refine ⟨x, ?_, ?_⟩
      · show (if b = true then outIdx A.enc (i + 1) (r.map Pm.l) else some (i : Int)) = some x
        rw [if_pos e]; exact hx
      · rw [hx2]
        have h9 := hb2.1 e
        constructor
        · intro h1 h2; exact h1 (fun g' hg => h2 g' (List.mem_cons_of_mem _ hg))
        · intro h1 h2; exact h1 (fun g' hg => (List.mem_cons.1 hg).elim (fun e => e ▸ h9) (h2 g'))
    · refine ⟨(i : Int), ?_, ?_⟩
      · show (if b = true then outIdx A.enc (i + 1) (r.map Pm.l) else some (i : Int)) = some (i : Int)
        rw [if_neg e]
      · exact ⟨fun _ h2 => e (hb2.2 (h2 g List.mem_cons_self)), fun _ => by omega⟩
open Classical in
theorem sub_spec (hn : n ≤ 20) (S T : List (Pm n)) (d : Int) : permgroup_sub.f d (S.map Pm.l) (n : Int) (T.map Pm.l) = some (decide (∀ g ∈ S, Gen T g)) := by
  obtain ⟨A, _, h1, h2, _⟩ := grp_spec hn T
  obtain ⟨r, hr, hr2⟩ := outIdx_spec hn h2 0 S
  unfold permgroup_sub.f
  rw [if_pos ⟨by omega, by omega⟩, Int.toNat_natCast, h1]
  show ((outIdx A.enc 0 (S.map Pm.l)).bind fun r => some (!decide (r ≥ 0))) = _
  rw [hr]
  show some (!decide (r ≥ 0)) = _
  congr 1
  by_cases e : ∀ g ∈ S, Gen T g
  · rw [decide_eq_true e, decide_eq_false (fun h => hr2.1 h e)]; rfl
  · rw [decide_eq_false e, decide_eq_true (hr2.2 e)]; rfl
end Go.Proofs.Ytaaaljifclecnaa.Pms
end
section
/- What the printed functions come to: each in plain words (loops by induction). -/
namespace Go.Proofs.Ytaaaljifclecnaa.QRf
open Go.RowKit Go.Proofs.Ytaaaljifclecnaa.PRf Go.Proofs.YtaaaljifclecnaaW.PrintWords Go.Proofs.YtaaaljifclecnaaW.PrintLast Go.Proofs.Ytaaaljifclecnaa.Plain
theorem galoisref22_Same.l_ev (a b : List Int) (hl : a.length = b.length) (hn : a.length < 4611686018427387904) : ∀ (d i : Nat), a.length - i = d → i ≤ a.length →
    Ev (fun k => galoisref22_Same.l0 k a b (i : Int)) (decide (a.drop i = b.drop i)) := by
  intro d
  induction d with
  | zero =>
    intro i hd hi
    rw [List.drop_eq_nil_of_le (by omega : a.length ≤ i), List.drop_eq_nil_of_le (by omega : b.length ≤ i)]
    refine Ev.step (f := fun _ => some true) (fun k => ?_) (Ev.now _)
    simp only [galoisref22_Same.l0]
    rw [if_neg (by omega)]
  | succ d ih =>
    intro i hd hi
    have ha : i < a.length := by omega
    have hb : i < b.length := by omega
    rw [List.drop_eq_getElem_cons ha, List.drop_eq_getElem_cons hb]
    by_cases e : a[i] = b[i]
    · refine Ev.step (f := fun k => galoisref22_Same.l0 k a b ((i + 1 : Nat) : Int)) (fun k => ?_) ?_
      · simp only [galoisref22_Same.l0]
        rw [if_pos (by omega), if_pos (by omega), if_pos (by omega), rd_get a i ha, rd_get b i hb, if_pos e, wrap_nat (by omega)]
      · rw [show decide (a[i] :: a.drop (i + 1) = b[i] :: b.drop (i + 1)) = decide (a.drop (i + 1) = b.drop (i + 1)) by rw [e]; simp only [List.cons.injEq, true_and]]
        exact ih (i + 1) (by omega) (by omega)
    · refine Ev.step (f := fun _ => some false) (fun k => ?_) ?_
      · simp only [galoisref22_Same.l0]
        rw [if_pos (by omega), if_pos (by omega), if_pos (by omega), rd_get a i ha, rd_get b i hb, if_neg e]
      · rw [show decide (a[i] :: a.drop (i + 1) = b[i] :: b.drop (i + 1)) = false by simp only [List.cons.injEq, e, false_and, decide_false]]
        exact Ev.now _
theorem galoisref22_Same.ev (a b : List Int) (hn : a.length < 4611686018427387904) : Ev (fun k => galoisref22_Same.f k a b) (decide (a = b)) := by
  unfold galoisref22_Same.f
  by_cases hl : a.length = b.length
  · refine Ev.congr (f := fun k => galoisref22_Same.l0 k a b ((0 : Nat) : Int)) (fun k => ?_) ?_
    · rw [if_pos (by omega)]; rfl
    · have := galoisref22_Same.l_ev a b hl hn _ 0 rfl (by omega)
      rwa [List.drop_zero, List.drop_zero] at this
  · refine Ev.congr (f := fun _ => some false) (fun k => ?_) ?_
    · rw [if_neg (by omega)]
    · rw [show decide (a = b) = false by
        rw [decide_eq_false_iff_not]; exact fun e => hl (by rw [e])]
      exact Ev.now _
theorem rdL_get (C : List (List Int)) (i : Nat) (h : i < C.length) : rd_L1 C (i : Int) = C[i] := by
  show C.getD i [] = _
  rw [List.getD_eq_getElem?_getD, List.getElem?_eq_getElem h]; rfl
theorem galoisref22_SameLists.l_ev (a b : List (List Int)) (hl : a.length = b.length) (hn : a.length < 4611686018427387904) (hc : ∀ c ∈ a, c.length < 4611686018427387904) : ∀ (d i : Nat), a.length - i = d → i ≤ a.length →
    Ev (fun k => galoisref22_SameLists.l0 k a b (i : Int)) (decide (a.drop i = b.drop i)) := by
  intro d
  induction d with
  | zero =>
    intro i hd hi
    rw [List.drop_eq_nil_of_le (by omega : a.length ≤ i), List.drop_eq_nil_of_le (by omega : b.length ≤ i)]
    refine Ev.step (f := fun _ => some true) (fun k => ?_) (Ev.now _)
    simp only [galoisref22_SameLists.l0]
    rw [if_neg (by omega)]
  | succ d ih =>
    intro i hd hi
    have ha : i < a.length := by omega
    have hb : i < b.length := by omega
    have nx := ih (i + 1) (by omega) (by omega)
    rw [List.drop_eq_getElem_cons ha, List.drop_eq_getElem_cons hb]
    refine Ev.step (f := fun k => (galoisref22_Same.f k a[i] b[i]).bind fun t => if t = true then galoisref22_SameLists.l0 k a b ((i + 1 : Nat) : Int) else some false) (fun k => ?_) ?_
    · simp only [galoisref22_SameLists.l0]
      rw [if_pos (by omega), if_pos (by omega), if_pos (by omega), rdL_get a i ha, rdL_get b i hb, wrap_nat (by omega)]
    · refine Ev.bind (galoisref22_Same.ev _ _ (hc _ (List.getElem_mem ha))) ?_
      by_cases e : a[i] = b[i]
      · simp only [decide_eq_true e, if_true]
        rw [show decide (a[i] :: a.drop (i + 1) = b[i] :: b.drop (i + 1)) = decide (a.drop (i + 1) = b.drop (i + 1)) by rw [e]; simp only [List.cons.injEq, true_and]]
        exact nx
      · simp only [decide_eq_false e, Bool.false_eq_true, if_false]
        rw [show decide (a[i] :: a.drop (i + 1) = b[i] :: b.drop (i + 1)) = false by simp only [List.cons.injEq, e, false_and, decide_false]]
        exact Ev.now _
theorem galoisref22_Compare.l_ev (a b : List Int) (hl : a.length = b.length) (hn : a.length < 4611686018427387904) : ∀ (d i : Nat), a.length - i = d → i ≤ a.length →
    Ev (fun k => galoisref22_Compare.l0 k a b (i : Int)) (cmpL (a.drop i) (b.drop i)) := by
  intro d
  induction d with
  | zero =>
    intro i hd hi
    rw [List.drop_eq_nil_of_le (by omega : a.length ≤ i)]
    refine Ev.step (f := fun _ => some 0) (fun k => ?_) (Ev.now _)
    simp only [galoisref22_Compare.l0]
    rw [if_neg (by omega)]
  | succ d ih =>
    intro i hd hi
    have ha : i < a.length := by omega
    have hb : i < b.length := by omega
    have nx := ih (i + 1) (by omega) (by omega)
    rw [List.drop_eq_getElem_cons ha, List.drop_eq_getElem_cons hb]
    simp only [cmpL]
    have st : ∀ k, galoisref22_Compare.l0 (k + 1) a b (i : Int) = if a[i] < b[i] then some (-1) else if b[i] < a[i] then some 1 else galoisref22_Compare.l0 k a b ((i + 1 : Nat) : Int) := by
      intro k
      simp only [galoisref22_Compare.l0]
      rw [if_pos (by omega), if_pos (by omega), if_pos (by omega), rd_get a i ha, rd_get b i hb, wrap_nat (by omega)]
    by_cases h1 : a[i] < b[i]
    · rw [if_pos h1]
      exact Ev.step (f := fun _ => some (-1)) (fun k => by rw [st, if_pos h1]) (Ev.now _)
    · by_cases h2 : b[i] < a[i]
      · rw [if_neg h1, if_pos h2]
        exact Ev.step (f := fun _ => some 1) (fun k => by rw [st, if_neg h1, if_pos h2]) (Ev.now _)
      · rw [if_neg h1, if_neg h2]
        exact Ev.step (fun k => by rw [st, if_neg h1, if_neg h2]) nx
theorem galoisref22_Compare.ev (a b : List Int) (hl : a.length = b.length) (hn : a.length < 4611686018427387904) : Ev (fun k => galoisref22_Compare.f k a b) (cmpL a b) := by
  have := galoisref22_Compare.l_ev a b hl hn _ 0 rfl (Nat.zero_le _)
  rwa [List.drop_zero, List.drop_zero] at this
theorem galoisref22_Mul.l_ev (a b : List Int) (hl : a.length < 35184372088832) (hr : ∀ x ∈ a, 0 ≤ x ∧ x < (b.length : Int)) : ∀ (d i : Nat), a.length - i = d → i ≤ a.length →
    Ev (fun k => galoisref22_Mul.l0 k a b ((mulL a b).take i ++ (List.replicate a.length 0).drop i) (i : Int)) (mulL a b) := by
  have hm : (mulL a b).length = a.length := by simp [mulL]
  intro d
  induction d with
  | zero =>
    intro i hd hi
    have e : i = (mulL a b).length := by omega
    refine Ev.step (f := fun _ => some (mulL a b)) (fun k => ?_) (Ev.now _)
    simp only [galoisref22_Mul.l0]
    rw [if_neg (by omega), e, fill_end _ _ (by simp [hm])]
  | succ d ih =>
    intro i hd hi
    have hlt : i < a.length := by omega
    have hx := hr a[i] (List.getElem_mem hlt)
    refine Ev.step (f := fun k => galoisref22_Mul.l0 k a b ((mulL a b).take (i + 1) ++ (List.replicate a.length 0).drop (i + 1)) ((i + 1 : Nat) : Int)) (fun k => ?_) (ih (i + 1) (by omega) (by omega))
    simp only [galoisref22_Mul.l0]
    rw [if_pos (by omega), if_pos (by omega), rd_get a i hlt, if_pos hx.1, if_pos hx.2, if_pos (by rw [List.length_append, List.length_take, List.length_drop, List.length_replicate]; omega), wrap_nat (by omega)]
    rw [Int.toNat_natCast, set_fill (mulL a b) (List.replicate a.length 0) i (rd b a[i]) (by omega) (by simp [hm]) (by simp [mulL, List.getElem?_eq_getElem hlt])]
theorem galoisref22_Mul.ev (a b : List Int) (hl : a.length < 35184372088832) (hr : ∀ x ∈ a, 0 ≤ x ∧ x < (b.length : Int)) : Ev (fun k => galoisref22_Mul.f k a b) (mulL a b) := by
  refine Ev.congr (fun k => ?_) (galoisref22_Mul.l_ev a b hl hr _ 0 rfl (Nat.zero_le _))
  unfold galoisref22_Mul.f
  rw [if_pos (by omega), if_pos (by omega)]
  simp
theorem galoisref22_Mul.ev_lf (g h : Nat → Nat) (n : Nat) (hg : Bij n g) (hn : n ≤ 20) : Ev (fun k => galoisref22_Mul.f k (lf g n) (lf h n)) (lf (fun i => h (g i)) n) := by
  have := galoisref22_Mul.ev (lf g n) (lf h n) (by rw [lf_length]; omega) (fun x hx => by
    have := (lf_perm hg).1 x hx
    rw [lf_length] at this ⊢; exact this)
  rwa [mulL_lf g h n hg.lt] at this
theorem galoisref22_Check.l1_ev (l : List Int) (i : Nat) (hi : i < l.length) (hl : l.length ≤ 20) (r : Int)
    (hr : l.getD i 0 ∉ l.take i → Ev (fun k => galoisref22_Check.l0 k l ((i + 1 : Nat) : Int)) r) : ∀ (d j : Nat), i - j = d → j ≤ i → l.getD i 0 ∉ l.take j →
    Ev (fun k => galoisref22_Check.l1 k l (i : Int) (j : Int)) (if l.getD i 0 ∈ l.take i then 24 else r) := by
  intro d
  induction d with
  | zero =>
    intro j hd hj hno
    have e : j = i := by omega
    subst e
    rw [if_neg hno]
    refine Ev.step (f := fun k => galoisref22_Check.l0 k l ((j + 1 : Nat) : Int)) (fun k => ?_) (hr hno)
    simp only [galoisref22_Check.l1]
    rw [if_neg (by omega), wrap_nat (by omega)]
  | succ d ih =>
    intro j hd hj hno
    have hjl : j < l.length := by omega
    by_cases e : l.getD j 0 = l.getD i 0
    · rw [if_pos (by
        rw [← e, List.getD_eq_getElem?_getD, List.getElem?_eq_getElem hjl]
        exact List.mem_take_iff_getElem.2 ⟨j, by omega, rfl⟩)]
      refine Ev.step (f := fun _ => some 24) (fun k => ?_) (Ev.now _)
      simp only [galoisref22_Check.l1]
      rw [if_pos (by omega), if_pos (by omega), if_pos (by omega), if_pos (by omega), if_pos (by omega), if_pos (by simpa only [rd_nat] using e)]
    · refine Ev.step (f := fun k => galoisref22_Check.l1 k l (i : Int) ((j + 1 : Nat) : Int)) (fun k => ?_) (ih (j + 1) (by omega) (by omega) ?_)
      · simp only [galoisref22_Check.l1]
        rw [if_pos (by omega), if_pos (by omega), if_pos (by omega), if_pos (by omega), if_pos (by omega), if_neg (by simpa only [rd_nat] using e), wrap_nat (by omega)]
      · rw [List.take_succ_eq_append_getElem hjl, List.mem_append, List.mem_singleton]
        rintro (h | h)
        · exact hno h
        · apply e
          rw [h, List.getD_eq_getElem?_getD, List.getElem?_eq_getElem hjl]; rfl
theorem galoisref22_Check.l_ev (l : List Int) (hl : l.length ≤ 20) : ∀ (d i : Nat), l.length - i = d → i ≤ l.length →
    Ev (fun k => galoisref22_Check.l0 k l (i : Int)) (chkFrom l d) := by
  intro d
  induction d with
  | zero =>
    intro i hd hi
    refine Ev.step (f := fun _ => some 0) (fun k => ?_) (Ev.now _)
    simp only [galoisref22_Check.l0]
    rw [if_neg (by omega)]
  | succ d ih =>
    intro i hd hi
    have hi' : l.length - (d + 1) = i := by omega
    simp only [chkFrom, hi']
    have hb : ∀ b : Bool, (b = true ↔ (l.getD i 0 < 0 ∨ (l.length : Int) ≤ l.getD i 0)) →
        Ev (fun k => galoisref22_Check.j1 k l (i : Int) b) (if l.getD i 0 < 0 ∨ (l.length : Int) ≤ l.getD i 0 then 3 else if l.getD i 0 ∈ l.take i then 24 else chkFrom l d) := by
      intro b hb
      by_cases h : b = true
      · rw [if_pos (hb.1 h)]
        refine Ev.step (f := fun _ => some 3) (fun k => ?_) (Ev.now _)
        simp only [galoisref22_Check.j1]
        rw [if_pos h]
      · rw [if_neg (fun hh => h (hb.2 hh))]
        refine Ev.step (f := fun k => galoisref22_Check.l1 k l (i : Int) ((0 : Nat) : Int)) (fun k => ?_) (galoisref22_Check.l1_ev l i (by omega) hl _ (fun _ => ih (i + 1) (by omega) (by omega)) _ 0 rfl (by omega) (by simp))
        simp only [galoisref22_Check.j1]
        rw [if_neg h]
        rfl
    by_cases h0 : rd l (i : Int) < 0
    · refine Ev.step (f := fun k => galoisref22_Check.j1 k l (i : Int) true) (fun k => ?_) (hb true ⟨fun _ => .inl h0, fun _ => rfl⟩)
      simp only [galoisref22_Check.l0]
      rw [if_pos (by omega), if_pos (by omega), if_pos h0]
    · refine Ev.step (f := fun k => galoisref22_Check.j1 k l (i : Int) (decide (rd l (i : Int) ≥ (l.length : Int)))) (fun k => ?_) (hb _ ?_)
      · simp only [galoisref22_Check.l0]
        rw [if_pos (by omega), if_pos (by omega), if_neg h0]
      · rw [decide_eq_true_iff]
        exact ⟨fun h => .inr h, fun h => h.elim (fun hh => absurd hh h0) id⟩
theorem galoisref22_Check.ev (l : List Int) : Ev (fun k => galoisref22_Check.f k l) (chk l) := by
  unfold galoisref22_Check.f chk
  by_cases h : 20 < l.length
  · rw [if_pos h]
    refine Ev.congr (f := fun _ => some 4) (fun k => ?_) (Ev.now _)
    rw [if_pos (by omega)]
  · rw [if_neg h]
    refine Ev.congr (f := fun k => galoisref22_Check.l0 k l 0) (fun k => ?_) (galoisref22_Check.l_ev l (by omega) _ 0 (by omega) (by omega))
    rw [if_neg (by omega)]
theorem galoisref23_Check.l_ev (L : List (List Int)) (n : Int) (hL : L.length ≤ 32) : ∀ (d i : Nat), L.length - i = d → i ≤ L.length → Ev (fun k => galoisref23_Check.l0 k (i : Int) n L) (chkAll n (L.drop i))
  | 0, i, hd, hi => by
    rw [List.drop_eq_nil_of_le (by omega)]
    refine Ev.step (f := fun _ => some 0) (fun k => ?_) (Ev.now _)
    simp only [galoisref23_Check.l0]
    rw [if_neg (by omega)]
  | d + 1, i, hd, hi => by
    have hlt : i < L.length := by omega
    rw [List.drop_eq_getElem_cons hlt, chkAll]
    refine Ev.step (f := fun k => (galoisref22_Check.f k L[i]).bind fun t => if t = 0 then (if (L[i].length : Int) = n then galoisref23_Check.l0 k ((i + 1 : Nat) : Int) n L else some 2) else some t) (fun k => ?_) ?_
    · simp only [galoisref23_Check.l0]
      rw [if_pos (by omega), if_pos (by omega), rdL_get L i hlt, wrap_nat (by omega)]
    · refine Ev.bind (galoisref22_Check.ev _) ?_
      unfold chkE
      by_cases h : chk L[i] = 0
      · simp only [h, if_pos rfl]
        by_cases e : (L[i].length : Int) = n
        · simp only [if_pos e, if_pos rfl]; exact galoisref23_Check.l_ev L n hL d (i + 1) (by omega) (by omega)
        · simp only [if_neg e]; exact Ev.now _
      · simp only [if_neg h]; exact Ev.now _
theorem galoisref23_Check.ev (n : Int) (L : List (List Int)) : Ev (fun k => galoisref23_Check.f k n L) (chkG n L) := by
  unfold chkG
  by_cases h1 : n < 0
  · rw [if_pos h1]; refine Ev.congr (f := fun _ => some 3) (fun k => ?_) (Ev.now _); simp only [galoisref23_Check.f, galoisref22_Degree.f]; rw [if_pos h1]; rfl
  · rw [if_neg h1]
    by_cases h2 : 20 < n
    · rw [if_pos h2]; refine Ev.congr (f := fun _ => some 4) (fun k => ?_) (Ev.now _); simp only [galoisref23_Check.f, galoisref22_Degree.f]; rw [if_neg h1, if_pos h2]; rfl
    · rw [if_neg h2]
      by_cases h3 : 32 < L.length
      · rw [if_pos h3]; refine Ev.congr (f := fun _ => some 5) (fun k => ?_) (Ev.now _); simp only [galoisref23_Check.f, galoisref22_Degree.f]; rw [if_neg h1, if_neg h2]; show (if (0 : Int) = 0 then (if (L.length : Int) > 32 then some 5 else galoisref23_Check.l0 k 0 n L) else some 0) = _; rw [if_pos rfl, if_pos (by omega)]
      · rw [if_neg h3]; refine Ev.congr (f := fun k => galoisref23_Check.l0 k ((0 : Nat) : Int) n L) (fun k => ?_) (galoisref23_Check.l_ev L n (by omega) _ 0 rfl (by omega)); simp only [galoisref23_Check.f, galoisref22_Degree.f]; rw [if_neg h1, if_neg h2]; show (if (0 : Int) = 0 then (if (L.length : Int) > 32 then some 5 else galoisref23_Check.l0 k 0 n L) else some 0) = _; rw [if_pos rfl, if_neg (by omega)]; rfl
theorem galoisref23_Few.l_ev (L : List (List Int)) (n : Int) (hL : L.length ≤ 40) : ∀ (d i : Nat), L.length - i = d → i ≤ L.length → ∃ b, Ev (fun k => galoisref23_Few.l0 k (i : Int) n L) b
  | 0, i, hd, hi => by
    refine ⟨true, Ev.step (f := fun _ => some true) (fun k => ?_) (Ev.now _)⟩
    simp only [galoisref23_Few.l0]
    rw [if_neg (by omega)]
  | d + 1, i, hd, hi => by
    have hlt : i < L.length := by omega
    obtain ⟨b, hb⟩ := galoisref23_Few.l_ev L n hL d (i + 1) (by omega) (by omega)
    by_cases e : (L[i].length : Int) > 40
    · refine ⟨false, Ev.step (f := fun _ => some false) (fun k => ?_) (Ev.now _)⟩
      simp only [galoisref23_Few.l0]
      rw [if_pos (by omega), if_pos (by omega), rdL_get L i hlt, if_pos e]
    · refine ⟨b, Ev.step (f := fun k => galoisref23_Few.l0 k ((i + 1 : Nat) : Int) n L) (fun k => ?_) hb⟩
      simp only [galoisref23_Few.l0]
      rw [if_pos (by omega), if_pos (by omega), rdL_get L i hlt, if_neg e, wrap_nat (by omega)]
theorem galoisref23_Few.ev (n : Int) (L : List (List Int)) : ∃ b, Ev (fun k => galoisref23_Few.f k n L) b := by
  by_cases h : (L.length : Int) > 40
  · exact ⟨false, Ev.congr (f := fun _ => some false) (fun k => by simp only [galoisref23_Few.f]; rw [if_pos h]) (Ev.now _)⟩
  · obtain ⟨b, hb⟩ := galoisref23_Few.l_ev L n (by omega) _ 0 rfl (by omega)
    exact ⟨b, Ev.congr (f := fun k => galoisref23_Few.l0 k ((0 : Nat) : Int) n L) (fun k => by simp only [galoisref23_Few.f]; rw [if_neg h]; rfl) hb⟩
theorem galoisref22_Identity.l_ev (n : Nat) (hl : n ≤ 35184372088832) : ∀ (d i : Nat), n - i = d → i ≤ n →
    Ev (fun k => galoisref22_Identity.l0 k (n : Int) ((lf (fun i => i) n).take i ++ (List.replicate n 0).drop i) (i : Int)) (lf (fun i => i) n) := by
  have hm : (lf (fun i => i) n).length = n := lf_length _ _
  intro d
  induction d with
  | zero =>
    intro i hd hi
    have e : i = (lf (fun i => i) n).length := by omega
    refine Ev.step (f := fun _ => some (lf (fun i => i) n)) (fun k => ?_) (Ev.now _)
    simp only [galoisref22_Identity.l0]
    rw [if_neg (by omega), e, fill_end _ _ (by simp [hm])]
  | succ d ih =>
    intro i hd hi
    refine Ev.step (f := fun k => galoisref22_Identity.l0 k (n : Int) ((lf (fun i => i) n).take (i + 1) ++ (List.replicate n 0).drop (i + 1)) ((i + 1 : Nat) : Int)) (fun k => ?_) (ih (i + 1) (by omega) (by omega))
    simp only [galoisref22_Identity.l0]
    rw [if_pos (by omega), if_pos (by omega), if_pos (by rw [List.length_append, List.length_take, List.length_drop, List.length_replicate]; omega), wrap_nat (by omega)]
    rw [Int.toNat_natCast, set_fill (lf (fun i => i) n) (List.replicate n 0) i (i : Int) (by omega) (by simp [hm]) (lf_get? _ _ _ (by omega))]
theorem galoisref22_Identity.ev (n : Nat) (hl : n ≤ 35184372088832) : Ev (fun k => galoisref22_Identity.f k (n : Int)) (lf (fun i => i) n) := by
  refine Ev.congr (fun k => ?_) (galoisref22_Identity.l_ev n hl _ 0 rfl (Nat.zero_le _))
  unfold galoisref22_Identity.f
  rw [if_pos (by omega), if_pos (by omega)]
  simp
end Go.Proofs.Ytaaaljifclecnaa.QRf
end
section
/- What the reference's lists of permutations come to: the place in a rising list, membership, all products. -/
namespace Go.Proofs.Ytaaaljifclecnaa.QCl
open Go.RowKit Go.Proofs.YtaaaljifclecnaaW.PrintWords Go.Proofs.Ytaaaljifclecnaa.Plain Go.Proofs.Ytaaaljifclecnaa.Pms Go.Proofs.Ytaaaljifclecnaa.PRf Go.Proofs.Ytaaaljifclecnaa.QRf Go.Proofs.Ytaaaljifclecnaa.Bs
variable {n : Nat}
theorem mulP (hn : n ≤ 20) (p q : Pm n) : Ev (fun k => galoisref22_Mul.f k p.l q.l) (p * q).l := by
  have h := galoisref22_Mul.ev_lf p.ap q.ap n p.bij hn
  rw [← p.l_eq, ← q.l_eq] at h
  have e : lf (fun i => q.ap (p.ap i)) n = (p * q).l := by
    rw [(p * q).l_eq]
    exact lf_congr fun i hi => (Pm.mul_ap p q hi).symm
  rwa [e] at h
theorem identP (hn : n ≤ 20) : Ev (fun k => galoisref22_Identity.f k (n : Int)) (1 : Pm n).l := galoisref22_Identity.ev n (by omega)
theorem sameP (p q : Pm n) (hn : n ≤ 20) : Ev (fun k => galoisref22_Same.f k p.l q.l) (decide (p = q)) := by
  have h := galoisref22_Same.ev p.l q.l (by rw [p.len]; omega)
  have e : decide (p.l = q.l) = decide (p = q) := decide_eq_decide.2 ⟨fun h => Pm.eq_of_l h, fun h => by rw [h]⟩
  rwa [e] at h
theorem mapl_get (L : List (Pm n)) (i : Nat) (h : i < L.length) : rd_L1 (L.map Pm.l) (i : Int) = L[i].l := by
  have h2 : i < (L.map Pm.l).length := by rw [List.length_map]; exact h
  rw [rdL_get _ i h2, List.getElem_map]
theorem place_loop (hn : n ≤ 20) {L : List (Pm n)} (hL : L.Pairwise Lt) (hlen : L.length < 1000000) (p : Pm n) (P : Nat) (hP : ∀ (i : Nat) (hi : i < L.length), Lt L[i] p ↔ i < P) : ∀ (d low high : Nat), high - low ≤ d → low ≤ P → P ≤ high → high ≤ L.length → Ev (fun k => galoisref23_Place.l0 k (L.map Pm.l) p.l (low : Int) (high : Int)) ((P : Nat) : Int) := by
  intro d
  induction d with
  | zero =>
    intro low high hd h1 h2 h3
    refine Ev.step (f := fun _ => some (low : Int)) (fun k => ?_) (by rw [show P = low by omega]; exact Ev.now _)
    simp only [galoisref23_Place.l0]
    rw [if_neg (by omega)]
  | succ d ih =>
    intro low high hd h1 h2 h3
    by_cases hlt : low < high
    · have hs : low + high < 2000000 := by omega
      have e1 : wrap64 ((low : Int) + (high : Int)) = ((low + high : Nat) : Int) := by rw [w64_small (by omega) (by omega)]; omega
      obtain ⟨m, hm1, hm2, e2⟩ : ∃ m, low ≤ m ∧ m < high ∧ wrap64 (Int.tdiv ((low + high : Nat) : Int) 2) = (m : Int) := by
        refine ⟨(low + high) / 2, by omega, by omega, ?_⟩
        have h9 : Int.tdiv ((low + high : Nat) : Int) ((2 : Nat) : Int) = (((low + high) / 2 : Nat) : Int) := (Int.ofNat_tdiv (low + high) 2).symm
        have h8 : (low + high) / 2 < 2000000 := by omega
        obtain ⟨t, ht⟩ : ∃ t, (low + high) / 2 = t := ⟨_, rfl⟩
        rw [ht] at h8 h9 ⊢
        have h7 : Int.tdiv ((low + high : Nat) : Int) 2 = (t : Int) := h9
        rw [h7]
        clear h7 h9 ht e1 hs
        exact w64_small (by omega) (by omega)
      have hml : m < L.length := Nat.lt_of_lt_of_le hm2 h3
      have c1 : (low : Int) < (high : Int) := by omega
      have c2 : (0 : Int) ≤ (m : Int) := Int.natCast_nonneg m
      have c3 : (m : Int) < ((L.map Pm.l).length : Int) := by rw [List.length_map]; omega
      have c4 : wrap64 ((m : Int) + 1) = ((m + 1 : Nat) : Int) := wrap_nat (Nat.lt_trans (Nat.lt_trans hml hlen) (by decide))
      clear hs
      refine Ev.step (f := fun k => (galoisref22_Compare.f k L[m].l p.l).bind fun t => if t < 0 then galoisref23_Place.l0 k (L.map Pm.l) p.l ((m + 1 : Nat) : Int) (high : Int) else galoisref23_Place.l0 k (L.map Pm.l) p.l (low : Int) (m : Int)) (fun k => ?_) ?_
      · simp only [galoisref23_Place.l0, e1, e2, eq_true c1, eq_true c2, eq_true c3, if_true, mapl_get L m hml, c4]
      · refine Ev.bind (galoisref22_Compare.ev _ _ (by rw [L[m].len, p.len]) (by rw [L[m].len]; omega)) ?_
        have hp := hP m hml
        clear hP hlen e1 e2 c1 c2 c3 c4
        by_cases hc : cmpL L[m].l p.l < 0
        · simp only [if_pos hc]
          have := hp.1 ((cmp_lt _ _).1 hc)
          clear hp hc
          exact ih (m + 1) high (by omega) (by omega) h2 h3
        · simp only [if_neg hc]
          have : ¬ m < P := fun h => hc ((cmp_lt _ _).2 (hp.2 h))
          clear hp hc
          exact ih low m (by omega) h1 (by omega) (by omega)
    · exact ih low high (by omega) h1 h2 h3
theorem placeP (hn : n ≤ 20) {L : List (Pm n)} (hL : L.Pairwise Lt) (hlen : L.length < 1000000) (p : Pm n) : Ev (fun k => galoisref23_Place.f k (L.map Pm.l) p.l) ((place L p : Nat) : Int) := by
  have := place_loop hn hL hlen p (place L p) (fun i hi => place_iff hL i hi) L.length 0 L.length (by omega) (Nat.zero_le _) (place_le L p) (Nat.le_refl _)
  unfold galoisref23_Place.f
  rw [List.length_map]
  exact this
theorem hasP (hn : n ≤ 20) {L : List (Pm n)} (hL : L.Pairwise Lt) (hlen : L.length < 1000000) (p : Pm n) : Ev (fun k => galoisref23_Has.f k (L.map Pm.l) p.l) (decide (p ∈ L)) := by
  unfold galoisref23_Has.f
  refine Ev.bind (placeP hn hL hlen p) ?_
  rw [List.length_map]
  by_cases h : place L p < L.length
  · simp only [if_pos (show ((place L p : Nat) : Int) < (L.length : Int) by omega), if_pos (show (0 : Int) ≤ ((place L p : Nat) : Int) by omega), mapl_get L _ h]
    refine Ev.bind (sameP _ _ hn) ?_
    have e : decide (L[place L p] = p) = decide (p ∈ L) := decide_eq_decide.2 ⟨fun e => (place_mem hL).2 ⟨h, e⟩, fun e => (place_mem hL).1 e |>.2⟩
    rw [e]; exact Ev.now _
  · simp only [if_neg (show ¬ ((place L p : Nat) : Int) < (L.length : Int) by omega)]
    have e : decide (p ∈ L) = false := decide_eq_false fun e => h ((place_mem hL).1 e).1
    rw [e]; exact Ev.now _
structure ClInv (S A W : List (Pm n)) (i j : Nat) : Prop where
  srt : A.Pairwise Lt
  perm : A.Perm W
  one : (1 : Pm n) ∈ W
  gen : ∀ x ∈ W, Gen S x
  rows : ∀ (a : Nat) (ha : a < W.length), a < i → ∀ s ∈ S, W[a] * s ∈ W
  row : ∀ (b : Nat) (hb : b < S.length) (hi : i < W.length), b < j → W[i] * S[b] ∈ W
  small : W.length ≤ 240
  jl : j ≤ S.length
  il : i ≤ W.length
def closeR (E : List (Pm n)) : List (List Int) × Bool := if E.length ≤ 240 then (E.map Pm.l, true) else ([], false)
theorem close_loop (hn : n ≤ 20) (S E : List (Pm n)) (hE : E.Pairwise Lt) (hG : ∀ p, p ∈ E ↔ Gen S p) : ∀ (m i j : Nat) (A W : List (Pm n)), ClInv S A W i j → (240 - i) * (S.length + 1) + (S.length - j) ≤ m → ∃ K, ∀ k, K ≤ k → ∀ q, m < q → closeL k (S.map Pm.l) q (A.map Pm.l) (W.map Pm.l) i j = some (closeR E) := by
  intro m
  induction m with
  | zero =>
    intro i j A W hI hm
    have hi : 240 - i = 0 := by
      rcases Nat.eq_zero_or_pos (240 - i) with h | h
      · exact h
      · have := Nat.mul_pos h (Nat.succ_pos S.length); simp only [Nat.succ_eq_add_one] at this; omega
    have hW := hI.small
    have hil := hI.il
    have h240 : i = 240 := by omega
    have hEA : E = A := by
      refine sorted_eq hE hI.srt fun p => ?_
      rw [hG]
      constructor
      · intro hp
        refine hI.perm.symm.subset (Gen.induct (P := fun p => p ∈ W) hI.one (fun x s hx _ hs => ?_) hp)
        obtain ⟨a, ha, rfl⟩ := List.getElem_of_mem hx
        exact hI.rows a ha (by omega) s hs
      · intro hp; exact hI.gen p (hI.perm.subset hp)
    refine ⟨0, fun k _ q hq => ?_⟩
    obtain ⟨q, rfl⟩ : ∃ t, q = t + 1 := ⟨q - 1, by omega⟩
    rw [closeL, List.length_map, if_neg (by omega), closeR, hEA, if_pos (by rw [hI.perm.length_eq]; omega)]
  | succ m ih =>
    intro i j A W hI hm
    have hlA : A.length = W.length := hI.perm.length_eq
    have hW := hI.small
    by_cases hi : i < W.length
    · by_cases hj : j < S.length
      · obtain ⟨p, hp⟩ : ∃ p, W[i] * S[j] = p := ⟨_, rfl⟩
        obtain ⟨K1, h1⟩ := mulP hn W[i] S[j]
        obtain ⟨K2, h2⟩ := hasP hn hI.srt (by omega) p
        obtain ⟨K3, h3⟩ := placeP hn hI.srt (by omega) p
        replace h1 : ∀ k, K1 ≤ k → galoisref22_Mul.f k W[i].l S[j].l = some (W[i] * S[j]).l := h1
        replace h2 : ∀ k, K2 ≤ k → galoisref23_Has.f k (A.map Pm.l) p.l = some (decide (p ∈ A)) := h2
        replace h3 : ∀ k, K3 ≤ k → galoisref23_Place.f k (A.map Pm.l) p.l = some ((place A p : Nat) : Int) := h3
        rw [hp] at h1
        have hstep : ∀ k q, K1 ≤ k → K2 ≤ k → closeL k (S.map Pm.l) (q + 1) (A.map Pm.l) (W.map Pm.l) i j = if decide (p ∈ A) = true then closeL k (S.map Pm.l) q (A.map Pm.l) (W.map Pm.l) i (j + 1) else if 240 ≤ A.length then some ([], false) else (galoisref23_Place.f k (A.map Pm.l) p.l).bind fun a => if 0 ≤ a ∧ a ≤ (A.length : Int) then closeL k (S.map Pm.l) q ((A.map Pm.l).take a.toNat ++ p.l :: (A.map Pm.l).drop a.toNat) (W.map Pm.l ++ [p.l]) i (j + 1) else none := fun k q hk1 hk2 => by
          have hw : (W.map Pm.l).getD i [] = W[i].l := by rw [List.getD_eq_getElem?_getD, List.getElem?_map, List.getElem?_eq_getElem hi]; rfl
          have hs : (S.map Pm.l).getD j [] = S[j].l := by rw [List.getD_eq_getElem?_getD, List.getElem?_map, List.getElem?_eq_getElem hj]; rfl
          rw [closeL, List.length_map, List.length_map, if_pos hi, if_pos hj, hw, hs, h1 k hk1, Option.bind_some, h2 k hk2, Option.bind_some, List.length_map]
        by_cases hpA : p ∈ A
        · have hI' : ClInv S A W i (j + 1) := { hI with
            row := fun b hb hi2 hbj => by
              by_cases e : b = j
              · subst e; rw [hp]; exact hI.perm.subset hpA
              · exact hI.row b hb hi2 (by omega)
            jl := by omega }
          obtain ⟨K, hK⟩ := ih i (j + 1) A W hI' (by omega)
          refine ⟨max K (max K1 K2), fun k hk q hq => ?_⟩
          obtain ⟨q, rfl⟩ : ∃ t, q = t + 1 := ⟨q - 1, by omega⟩
          rw [hstep k q (by omega) (by omega), if_pos (decide_eq_true hpA)]
          exact hK k (by omega) q (by omega)
        · have hpG : Gen S p := by rw [← hp]; exact (hI.gen _ (List.getElem_mem hi)).mul (Gen.of (List.getElem_mem hj))
          by_cases hbig : 240 ≤ A.length
          · have hlen : ¬ E.length ≤ 240 := fun hle => by
              have h4 : (p :: A).Nodup := List.nodup_cons.2 ⟨hpA, sorted_nodup hI.srt⟩
              have := h4.length_le_of_subset (l₂ := E) (fun x hx => by
                rw [hG]
                rcases List.mem_cons.1 hx with rfl | hx
                · exact hpG
                · exact hI.gen x (hI.perm.subset hx))
              rw [List.length_cons] at this
              omega
            refine ⟨max K1 K2, fun k hk q hq => ?_⟩
            obtain ⟨q, rfl⟩ : ∃ t, q = t + 1 := ⟨q - 1, by omega⟩
            rw [hstep k q (by omega) (by omega), if_neg (by rw [decide_eq_true_iff]; exact hpA), if_pos hbig, closeR, if_neg hlen]
          · have hI' : ClInv S (ins A p) (W ++ [p]) i (j + 1) := {
              srt := ins_sorted hI.srt hpA
              perm := (ins_perm A p).trans (((hI.perm.cons p)).trans (List.perm_append_singleton p W).symm)
              one := List.mem_append_left _ hI.one
              gen := fun x hx => by
                rcases List.mem_append.1 hx with hx | hx
                · exact hI.gen x hx
                · rw [List.mem_singleton] at hx; subst hx; exact hpG
              rows := fun a ha hai s hs => by
                rw [List.getElem_append_left (by omega)]
                exact List.mem_append_left _ (hI.rows a (by omega) hai s hs)
              row := fun b hb hi2 hbj => by
                rw [List.getElem_append_left hi]
                by_cases e : b = j
                · subst e; rw [hp]; exact List.mem_append_right _ (List.mem_singleton.2 rfl)
                · exact List.mem_append_left _ (hI.row b hb hi (by omega))
              small := by rw [List.length_append, List.length_singleton]; omega
              jl := by omega
              il := by rw [List.length_append]; omega }
            obtain ⟨K, hK⟩ := ih i (j + 1) (ins A p) (W ++ [p]) hI' (by omega)
            refine ⟨max K (max K1 (max K2 K3)), fun k hk q hq => ?_⟩
            obtain ⟨q, rfl⟩ : ∃ t, q = t + 1 := ⟨q - 1, by omega⟩
            have hpl := place_le A p
            rw [hstep k q (by omega) (by omega), if_neg (by rw [decide_eq_true_iff]; exact hpA), if_neg hbig, h3 k (by omega), Option.bind_some, if_pos (by omega), Int.toNat_natCast]
            have := hK k (by omega) q (by omega)
            unfold ins at this
            rw [List.map_append, List.map_cons, List.map_take, List.map_drop, List.map_append] at this
            exact this
      · have ej : j = S.length := by have := hI.jl; omega
        have hI' : ClInv S A W (i + 1) 0 := { hI with
          rows := fun a ha hai s hs => by
            by_cases e : a = i
            · subst e
              obtain ⟨b, hb, rfl⟩ := List.getElem_of_mem hs
              exact hI.row b hb hi (by omega)
            · exact hI.rows a ha (by omega) s hs
          row := fun b hb hi2 hbj => by omega
          jl := Nat.zero_le _
          il := by omega }
        have hmul : (240 - i) * (S.length + 1) = (240 - (i + 1)) * (S.length + 1) + (S.length + 1) := by
          rw [show 240 - i = (240 - (i + 1)) + 1 by omega, Nat.succ_mul]
        obtain ⟨K, hK⟩ := ih (i + 1) 0 A W hI' (by omega)
        refine ⟨K, fun k hk q hq => ?_⟩
        obtain ⟨q, rfl⟩ : ∃ t, q = t + 1 := ⟨q - 1, by omega⟩
        rw [closeL, List.length_map, List.length_map, if_pos hi, if_neg hj]
        exact hK k hk q (by omega)
    · have hEA : E = A := by
        refine sorted_eq hE hI.srt fun p => ?_
        rw [hG]
        constructor
        · intro hp
          refine hI.perm.symm.subset (Gen.induct (P := fun p => p ∈ W) hI.one (fun x s hx _ hs => ?_) hp)
          obtain ⟨a, ha, rfl⟩ := List.getElem_of_mem hx
          exact hI.rows a ha (by omega) s hs
        · intro hp; exact hI.gen p (hI.perm.subset hp)
      refine ⟨0, fun k _ q hq => ?_⟩
      obtain ⟨q, rfl⟩ : ∃ t, q = t + 1 := ⟨q - 1, by omega⟩
      rw [closeL, List.length_map, if_neg hi, closeR, hEA, if_pos (by omega)]
theorem closeP (hn : n ≤ 20) {S E : List (Pm n)} (hE : E.Pairwise Lt) (hG : ∀ p, p ∈ E ↔ Gen S p) : Ev (fun k => galoisref23_Close.f k (n : Int) (S.map Pm.l)) (closeR E) := by
  obtain ⟨K1, h1⟩ := identP (n := n) hn
  replace h1 : ∀ k, K1 ≤ k → galoisref22_Identity.f k (n : Int) = some (1 : Pm n).l := h1
  obtain ⟨K, hK⟩ := close_loop hn S E hE hG _ 0 0 [1] [1] {
    srt := List.pairwise_singleton _ _
    perm := List.Perm.refl _
    one := List.mem_singleton.2 rfl
    gen := fun x hx => by rw [List.mem_singleton] at hx; subst hx; exact Gen.one _
    rows := fun a ha hai => by omega
    row := fun b hb hi hbj => by omega
    small := by simp
    jl := Nat.zero_le _
    il := Nat.zero_le _ } (Nat.le_refl _)
  refine ⟨max K1 (max K ((240 - 0) * (S.length + 1) + (S.length - 0) + 1)), fun k hk => ?_⟩
  show galoisref23_Close.f k (n : Int) (S.map Pm.l) = _
  unfold galoisref23_Close.f
  rw [h1 k (by omega), Option.bind_some, Option.bind_some]
  exact hK k (by omega) k (by omega)
end Go.Proofs.Ytaaaljifclecnaa.QCl
end
section
/- What the reference's functions on cosets come to. -/
namespace Go.Proofs.Ytaaaljifclecnaa.QCo
open Go.RowKit Go.Proofs.YtaaaljifclecnaaW.PrintWords Go.Proofs.Ytaaaljifclecnaa.Plain Go.Proofs.Ytaaaljifclecnaa.Pms Go.Proofs.Ytaaaljifclecnaa.QRf Go.Proofs.Ytaaaljifclecnaa.QCl
open Go.Proofs.Ytaaaljifclecnaa.Bs (Lt Lt.irrefl Lt.trans Lt.total sorted_eq sorted_nodup cosetL galoisref27_Representatives.f galoisref27_Representatives.l0 galoisref27_Find.f)
open Go.Proofs.Ytaaaljifclecnaa.PRf (galoisref22_Mul.f galoisref22_Same.f galoisref22_SamePerms.f galoisref22_SamePerms.l0 galoisref23_Has.f galoisref23_Place.f galoisref23_Two.f galoisref23_Check.f galoisref23_Few.f)
open Go.Proofs.Ytaaaljifclecnaa.PGp (galoisref23_Common.f galoisref23_Common.l0 galoisref23_Subset.f galoisref23_Elements.f galoisref27_Groups.f)
variable {n : Nat}
theorem mapG (L : List (Pm n)) (i : Nat) (h : i < L.length) : Go.Proofs.Ytaaaljifclecnaa.PGp.rd_L1 (L.map Pm.l) (i : Int) = L[i].l := mapl_get L i h
theorem twoP (a : Int) (L : List (List Int)) (b : Int) (M : List (List Int)) : Ev (fun k => galoisref23_Two.f k a L b M) (if chkG a L = 0 then (if chkG b M = 0 then (if a = b then 0 else 2) else chkG b M) else chkG a L) := by
  refine Ev.congr (f := fun k => (galoisref23_Check.f k a L).bind fun t => if t = 0 then ((galoisref23_Check.f k b M).bind fun t2 => if t2 = 0 then (if a = b then some 0 else some 2) else some t2) else some t) (fun k => rfl) ?_
  refine Ev.bind (galoisref23_Check.ev a L) ?_
  by_cases h : chkG a L = 0
  · simp only [h, if_pos rfl]
    refine Ev.bind (galoisref23_Check.ev b M) ?_
    by_cases h2 : chkG b M = 0
    · simp only [h2, if_pos rfl]
      by_cases e : a = b
      · simp only [if_pos e]; exact Ev.now _
      · simp only [if_neg e]; exact Ev.now _
    · simp only [if_neg h2]; exact Ev.now _
  · simp only [if_neg h]; exact Ev.now _
theorem samePermsP (hn : n ≤ 20) (A B : List (Pm n)) (hl : A.length = B.length) (hs : A.length < 100000) : Ev (fun k => galoisref22_SamePerms.f k (A.map Pm.l) (B.map Pm.l)) (decide (A = B)) := by
  have key : ∀ d i, i + d = A.length → Ev (fun k => galoisref22_SamePerms.l0 k (A.map Pm.l) (B.map Pm.l) (i : Int)) (decide (A.drop i = B.drop i)) := by
    intro d
    induction d with
    | zero =>
      intro i hi
      rw [List.drop_eq_nil_of_le (by omega), List.drop_eq_nil_of_le (by omega)]
      refine Ev.step (f := fun _ => some true) (fun k => ?_) (Ev.now _)
      simp only [galoisref22_SamePerms.l0, List.length_map]
      rw [if_neg (by omega)]
    | succ d ih =>
      intro i hi
      have ha : i < A.length := by omega
      have hb : i < B.length := by omega
      rw [List.drop_eq_getElem_cons ha, List.drop_eq_getElem_cons hb]
      refine Ev.step (f := fun k => (galoisref22_Same.f k A[i].l B[i].l).bind fun t => if t = true then galoisref22_SamePerms.l0 k (A.map Pm.l) (B.map Pm.l) ((i + 1 : Nat) : Int) else some false) (fun k => ?_) ?_
      · simp only [galoisref22_SamePerms.l0, List.length_map]
        rw [if_pos (by omega), if_pos (by omega), if_pos (by omega), mapl_get A i ha, mapl_get B i hb, wrap_nat (by omega)]
      · refine Ev.bind (sameP _ _ hn) ?_
        by_cases e : A[i] = B[i]
        · simp only [decide_eq_true e, if_true]
          rw [show decide (A[i] :: A.drop (i + 1) = B[i] :: B.drop (i + 1)) = decide (A.drop (i + 1) = B.drop (i + 1)) by rw [e]; simp only [List.cons.injEq, true_and]]
          exact ih (i + 1) (by omega)
        · simp only [decide_eq_false e, Bool.false_eq_true, if_false]
          rw [show decide (A[i] :: A.drop (i + 1) = B[i] :: B.drop (i + 1)) = false by simp only [List.cons.injEq, e, false_and, decide_false]]
          exact Ev.now _
  have := key A.length 0 (by omega)
  rw [List.drop_zero, List.drop_zero] at this
  refine Ev.congr (fun k => ?_) this
  unfold galoisref22_SamePerms.f
  rw [List.length_map, List.length_map, if_pos (by omega)]
  rfl
theorem commonP (hn : n ≤ 20) (A : List (Pm n)) {B : List (Pm n)} (hB : B.Pairwise Lt) (hA : A.length < 100000) (hBl : B.length < 100000) : Ev (fun k => galoisref23_Common.f k (A.map Pm.l) (B.map Pm.l)) ((A.filter fun x => decide (x ∈ B)).map Pm.l) := by
  refine Ev.congr (f := fun k => galoisref23_Common.l0 k (A.map Pm.l) (B.map Pm.l) (((A.take 0).filter fun x => decide (x ∈ B)).map Pm.l) ((0 : Nat) : Int)) (fun k => rfl) ?_
  refine Tab.scan_all (l := fun k i => galoisref23_Common.l0 k (A.map Pm.l) (B.map Pm.l) (((A.take i).filter fun x => decide (x ∈ B)).map Pm.l) ((i : Nat) : Int)) (n := A.length) (fun i hi r hr => ?_) ?_
  · rw [← List.take_append_getElem hi, List.filter_append, List.map_append] at hr
    have hlen : (((A.take i).filter fun x => decide (x ∈ B)).map Pm.l).length < 5864062014805 := by
      rw [List.length_map]
      have h1 := List.length_filter_le (fun x => decide (x ∈ B)) (A.take i)
      rw [List.length_take] at h1
      omega
    obtain ⟨acc, hacc⟩ : ∃ acc, ((A.take i).filter fun x => decide (x ∈ B)).map Pm.l = acc := ⟨_, rfl⟩
    simp only [hacc] at hr hlen ⊢
    refine Ev.step (f := fun k => (galoisref23_Has.f k (B.map Pm.l) A[i].l).bind fun t => if t = true then galoisref23_Common.l0 k (A.map Pm.l) (B.map Pm.l) (acc ++ [A[i].l]) ((i + 1 : Nat) : Int) else galoisref23_Common.l0 k (A.map Pm.l) (B.map Pm.l) acc ((i + 1 : Nat) : Int)) (fun k => ?_) ?_
    · simp only [galoisref23_Common.l0, List.length_map]
      rw [if_pos (by omega), if_pos (by omega), mapG A i hi, wrap_nat (by omega)]
      simp only [if_pos hlen]
    · refine Ev.bind (hasP hn hB (by omega) A[i]) ?_
      by_cases h : A[i] ∈ B
      · simp only [decide_eq_true h, if_true]
        rw [List.filter_cons, if_pos (decide_eq_true h)] at hr
        exact hr
      · simp only [decide_eq_false h, Bool.false_eq_true, if_false]
        rw [List.filter_cons, if_neg (by rw [decide_eq_true_iff]; exact h)] at hr
        rw [List.filter_nil, List.map_nil, List.append_nil] at hr
        exact hr
  · rw [List.take_length]
    refine Ev.step (f := fun _ => some _) (fun k => ?_) (Ev.now _)
    simp only [galoisref23_Common.l0, List.length_map]
    rw [if_neg (by omega)]
theorem subsetP (hn : n ≤ 20) (A : List (Pm n)) {B : List (Pm n)} (hB : B.Pairwise Lt) (hA : A.length < 100000) (hBl : B.length < 100000) : Ev (fun k => galoisref23_Subset.f k (A.map Pm.l) (B.map Pm.l)) (decide (∀ x ∈ A, x ∈ B)) := by
  refine Ev.bind (commonP hn A hB hA hBl) ?_
  have e : (((((A.filter fun x => decide (x ∈ B)).map Pm.l).length : Int)) == ((A.map Pm.l).length : Int)) = decide (∀ x ∈ A, x ∈ B) := by
    rw [List.length_map, List.length_map]
    by_cases h : ∀ x ∈ A, x ∈ B
    · rw [List.filter_eq_self.2 (fun x hx => decide_eq_true (h x hx)), decide_eq_true h]; exact beq_self_eq_true _
    · rw [decide_eq_false h, beq_eq_false_iff_ne]
      intro h2
      have h3 : (A.filter fun x => decide (x ∈ B)).length = A.length := by omega
      exact h fun x hx => of_decide_eq_true ((List.length_filter_eq_length_iff.1 h3) x hx)
  rw [e]; exact Ev.now _
theorem elsRP (hn : n ≤ 20) {S E : List (Pm n)} (hE : E.Pairwise Lt) (hG : ∀ p, p ∈ E ↔ Gen S p) (hl : E.length ≤ 240) : Ev (fun k => galoisref23_Elements.f k (n : Int) (S.map Pm.l)) (E.map Pm.l, true) := by
  have := closeP hn hE hG
  unfold closeR at this
  rw [if_pos hl] at this
  exact Ev.bind this (Ev.now _)
end Go.Proofs.Ytaaaljifclecnaa.QCo
end
section
/- What the law package's own functions come to: a group that is too large for the reference, or all its elements. -/
namespace Go.Proofs.Ytaaaljifclecnaa.QGp
open Go.RowKit Go.Proofs.YtaaaljifclecnaaW.PrintWords Go.Proofs.Ytaaaljifclecnaa.Plain Go.Proofs.Ytaaaljifclecnaa.Pms Go.Proofs.Ytaaaljifclecnaa.QRf Go.Proofs.Ytaaaljifclecnaa.QCl Go.Proofs.Ytaaaljifclecnaa.Bs
variable {n : Nat}
theorem elementsP (hn : n ≤ 20) {S E : List (Pm n)} (hE : E.Pairwise Lt) (hG : ∀ p, p ∈ E ↔ Gen S p) : Ev (fun k => PGp.galoisref23_Elements.f k (n : Int) (S.map Pm.l)) (closeR E) := by
  refine Ev.congr (f := fun k => (Bs.galoisref23_Close.f k (n : Int) (S.map Pm.l)).bind fun t => some (t.1, t.2)) (fun k => rfl) ?_
  exact Ev.bind (closeP hn hE hG) (Ev.now _)
structure Fit (a : Int) (L : List (List Int)) (n : Nat) (S E : List (Pm n)) : Prop where
  deg : a = (n : Int)
  hn : n ≤ 20
  gens : S.map Pm.l = L
  len : S.length ≤ 32
  srt : E.Pairwise Lt
  all : ∀ p, p ∈ E ↔ Gen S p
  few : E.length ≤ 240
theorem large_ev (a : Int) (L : List (List Int)) : ∃ b, Ev (fun k => PGp.galoislaw27_large.f k a L) b ∧ (b = false → chkG a L = 0 → ∃ (n : Nat) (S E : List (Pm n)), Fit a L n S E) := by
  obtain ⟨fb, hf⟩ := galoisref23_Few.ev a L
  have hc := galoisref23_Check.ev a L
  cases fb with
  | false =>
    refine ⟨true, ?_, fun h => by cases h⟩
    refine Ev.congr (f := fun k => (PRf.galoisref23_Few.f k a L).bind fun t => if t = true then ((PRf.galoisref23_Check.f k a L).bind fun t2 => if t2 = 0 then ((PGp.galoisref23_Small.f k a L).bind fun t3 => some (!t3)) else some false) else some true) (fun k => rfl) ?_
    refine Ev.bind hf ?_
    simp only [Bool.false_eq_true, if_false]
    exact Ev.now _
  | true =>
    by_cases h0 : chkG a L = 0
    · obtain ⟨n, S, rfl, hn, rfl, hL⟩ := chkG_to h0
      rw [List.length_map] at hL
      obtain ⟨E, hE, hG⟩ := all_exists hn S
      have hs : Ev (fun k => PGp.galoisref23_Small.f k (n : Int) (S.map Pm.l)) (decide (E.length ≤ 240)) := by
        refine Ev.congr (f := fun k => (PRf.galoisref23_Few.f k (n : Int) (S.map Pm.l)).bind fun t => if t = true then ((PRf.galoisref23_Check.f k (n : Int) (S.map Pm.l)).bind fun t2 => if t2 = 0 then ((PGp.galoisref23_Elements.f k (n : Int) (S.map Pm.l)).bind fun t3 => some t3.2) else some false) else some false) (fun k => rfl) ?_
        refine Ev.bind hf ?_
        simp only [if_true]
        refine Ev.bind hc ?_
        simp only [if_pos h0]
        refine Ev.bind (elementsP hn hE hG) ?_
        have e : (closeR E).2 = decide (E.length ≤ 240) := by
          unfold closeR
          by_cases h : E.length ≤ 240
          · rw [if_pos h, decide_eq_true h]
          · rw [if_neg h, decide_eq_false h]
        rw [e]; exact Ev.now _
      refine ⟨!decide (E.length ≤ 240), ?_, fun h _ => ⟨n, S, E, rfl, hn, rfl, hL, hE, hG, by simpa using h⟩⟩
      refine Ev.congr (f := fun k => (PRf.galoisref23_Few.f k (n : Int) (S.map Pm.l)).bind fun t => if t = true then ((PRf.galoisref23_Check.f k (n : Int) (S.map Pm.l)).bind fun t2 => if t2 = 0 then ((PGp.galoisref23_Small.f k (n : Int) (S.map Pm.l)).bind fun t3 => some (!t3)) else some false) else some true) (fun k => rfl) ?_
      refine Ev.bind hf ?_
      simp only [if_true]
      refine Ev.bind hc ?_
      simp only [if_pos h0]
      exact Ev.bind hs (Ev.now _)
    · refine ⟨false, ?_, fun _ h => absurd h h0⟩
      refine Ev.congr (f := fun k => (PRf.galoisref23_Few.f k a L).bind fun t => if t = true then ((PRf.galoisref23_Check.f k a L).bind fun t2 => if t2 = 0 then ((PGp.galoisref23_Small.f k a L).bind fun t3 => some (!t3)) else some false) else some true) (fun k => rfl) ?_
      refine Ev.bind hf ?_
      simp only [if_true]
      refine Ev.bind hc ?_
      simp only [if_neg h0]
      exact Ev.now _
end Go.Proofs.Ytaaaljifclecnaa.QGp
end
