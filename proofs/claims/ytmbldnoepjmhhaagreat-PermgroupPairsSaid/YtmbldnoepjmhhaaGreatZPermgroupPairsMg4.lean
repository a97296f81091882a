/- Texts of this claim put together (wip/tools/merge.py). -/
import Derived.Test.YtmbldnoepjmhhaaGreatZPermgroupPairsMg0
import Derived.Test.YtmbldnoepjmhhaaGreatZPermgroupPairsMg1
import Derived.Test.YtmbldnoepjmhhaaGreatZPermgroupPairsMg3
import Derived.WalkKit
import Derived.KernelRfl
import Derived.Tactics
import Derived.Test.YtmbldnoepjmhhaaGreatZPermgroupPairsPBsx0
import Derived.Test.YtmbldnoepjmhhaaGreatZPermgroupPairsPBsx1
import Derived.Test.YtmbldnoepjmhhaaGreatZPermgroupPairsPBsx2
import Derived.Test.YtmbldnoepjmhhaaGreatZPermgroupPairsWZeros
set_option linter.unusedVariables false
set_option linter.unusedSimpArgs false
section
/- The walk of Elements and of its closures. -/
namespace Go.Proofs.YtmbldnoepjmhhaaGreat.Bs
open Go.RowKit Go.Sort Go.Shelf Go.Proofs.YtmbldnoepjmhhaaGreatW.PrintWords Go.Proofs.YtmbldnoepjmhhaaGreatW.PrintLast Go.Proofs.YtmbldnoepjmhhaaGreatW.PrintMore Go.Proofs.YtmbldnoepjmhhaaGreat.Plain Go.Proofs.YtmbldnoepjmhhaaGreat.PBs
attribute [local go_sem] max2_int min2_int max_two min_two max_three min_three max_four min_four
def sortK_ren : Go.Shelf.Ren := ⟨fun | 6 => 117 | 15 => 137 | 14 => 136 | 28 => 152 | 29 => 153 | 20 => 144 | 21 => 145 | 22 => 146 | 23 => 147 | 24 => 148 | 25 => 149 | 26 => 150 | 27 => 151 | 46 => 168 | 47 => 169 | 48 => 170 | 49 => 171 | 50 => 172 | 57 => 177 | n => n, fun | 22 => 38 | 24 => 3 | 25 => 133 | 3 => 3 | 39 => 151 | 0 => 0 | 53 => 166 | 55 => 168 | 4 => 4 | 46 => 160 | 45 => 159 | 50 => 104 | 5 => 5 | 9 => 9 | 66 => 177 | 70 => 181 | 76 => 185 | 77 => 186 | n => n, fun | n => n⟩
theorem sortK : Go.Proofs.SlLaysF.n6 Tryz.prog sortK_ren := ⟨(by kernel_rfl),
  ⟨Tryz.f117.name, by decide, Tryz.func117.trans (congrArg some (by kernel_rfl))⟩,
  ⟨Tryz.f136.name, by decide, Tryz.func136.trans (congrArg some (by kernel_rfl))⟩,
  Tryz.func137.trans (congrArg some (by kernel_rfl)),
  ⟨Tryz.f144.name, by decide, Tryz.func144.trans (congrArg some (by kernel_rfl))⟩,
  ⟨Tryz.f145.name, by decide, Tryz.func145.trans (congrArg some (by kernel_rfl))⟩,
  ⟨Tryz.f146.name, by decide, Tryz.func146.trans (congrArg some (by kernel_rfl))⟩,
  ⟨Tryz.f147.name, by decide, Tryz.func147.trans (congrArg some (by kernel_rfl))⟩,
  ⟨Tryz.f148.name, by decide, Tryz.func148.trans (congrArg some (by kernel_rfl))⟩,
  ⟨Tryz.f149.name, by decide, Tryz.func149.trans (congrArg some (by kernel_rfl))⟩,
  ⟨Tryz.f150.name, by decide, Tryz.func150.trans (congrArg some (by kernel_rfl))⟩,
  ⟨Tryz.f151.name, by decide, Tryz.func151.trans (congrArg some (by kernel_rfl))⟩,
  Tryz.func152.trans (congrArg some (by kernel_rfl)),
  Tryz.func153.trans (congrArg some (by kernel_rfl)),
  ⟨Tryz.f168.name, by decide, Tryz.func168.trans (congrArg some (by kernel_rfl))⟩,
  Tryz.func169.trans (congrArg some (by kernel_rfl)),
  Tryz.func170.trans (congrArg some (by kernel_rfl)),
  ⟨Tryz.f171.name, by decide, Tryz.func171.trans (congrArg some (by kernel_rfl))⟩,
  ⟨Tryz.f172.name, by decide, Tryz.func172.trans (congrArg some (by kernel_rfl))⟩,
  ⟨Tryz.f177.name, by decide, Tryz.func177.trans (congrArg some (by kernel_rfl))⟩,
  Tryz.underlying0,
  Tryz.isAgg0,
  Tryz.sizeOf0,
  Tryz.zeroValue0,
  Tryz.underlying3,
  Tryz.isAgg3,
  Tryz.sizeOf3,
  Tryz.zeroValue3,
  Tryz.underlying4,
  Tryz.isAgg4,
  Tryz.sizeOf4,
  Tryz.zeroValue4,
  Tryz.underlying5,
  Tryz.isAgg5,
  Tryz.sizeOf5,
  Tryz.zeroValue5,
  Tryz.underlying9,
  Tryz.isAgg9,
  Tryz.sizeOf9,
  Tryz.zeroValue9,
  Tryz.underlying38,
  Tryz.isAgg38,
  Tryz.sizeOf38,
  Tryz.zeroValue38,
  Tryz.isAgg3,
  Tryz.sizeOf3,
  Tryz.underlying133,
  Tryz.isAgg133,
  Tryz.sizeOf133,
  Tryz.zeroValue133,
  Tryz.underlying151,
  Tryz.isAgg151,
  Tryz.sizeOf151,
  Tryz.zeroValue151,
  Tryz.underlying159,
  Tryz.isAgg159,
  Tryz.sizeOf159,
  Tryz.zeroValue159,
  Tryz.underlying160,
  Tryz.isAgg160,
  Tryz.sizeOf160,
  Tryz.zeroValue160,
  Tryz.underlying104,
  Tryz.isAgg104,
  Tryz.sizeOf104,
  Tryz.zeroValue104,
  Tryz.underlying166,
  Tryz.isAgg166,
  Tryz.sizeOf166,
  Tryz.zeroValue166,
  Tryz.underlying168,
  Tryz.isAgg168,
  Tryz.sizeOf168,
  Tryz.zeroValue168,
  Tryz.underlying177,
  Tryz.isAgg177,
  Tryz.sizeOf177,
  Tryz.zeroValue177,
  Tryz.underlying181,
  Tryz.isAgg181,
  Tryz.sizeOf181,
  Tryz.zeroValue181,
  Tryz.underlying185,
  Tryz.isAgg185,
  Tryz.sizeOf185,
  Tryz.zeroValue185,
  Tryz.underlying186,
  Tryz.isAgg186,
  Tryz.sizeOf186,
  Tryz.zeroValue186⟩
theorem goodKeys_at {u l : List Int} (h : goodKeys u l = true) : 0 < l.length ∧ l.length < 1000 ∧ (∀ x ∈ l, 0 ≤ x ∧ x < (u.length : Int) ∧ 0 ≤ rd u x ∧ rd u x < 1000) ∧ ∀ x ∈ l, ∀ y ∈ l, rd u x = rd u y → x = y := by
  unfold goodKeys at h
  simp only [Bool.and_eq_true, decide_eq_true_eq, List.all_eq_true] at h
  obtain ⟨⟨⟨h1, h2⟩, h3⟩, h4⟩ := h
  exact ⟨h1, h2, fun x hx => by have := h3 x hx; omega, fun x hx y hy => h4 x hx y hy⟩
set_option maxHeartbeats 2000000 in
theorem cmp_any (u : List Int) (vu : Value) (b : Nat) (x y : Int) (W : World) (hu : W.cell? ⟨b, 0, none⟩ = some vu) (hp : PermAt W vu u) (hx : 0 ≤ x ∧ x < (u.length : Int) ∧ 0 ≤ rd u x ∧ rd u x < 1000) (hy : 0 ≤ y ∧ y < (u.length : Int) ∧ 0 ≤ rd u y ∧ rd u y < 1000) :
    Calls Tryz.prog 118 #[.int .i64 x, .int .i64 y, .pointer (some ⟨b, 0, none⟩)] W fun e w' => e = .returned (.int .i64 (rd u x - rd u y)) ∧ ∃ q, w' = W.drewN q := by
  obtain ⟨A, c, rfl, hc, hC⟩ := hp
  obtain ⟨ad, e1, hcx⟩ := Kd.at_int hC x hx.1 hx.2.1
  subst e1
  obtain ⟨ad', e2, hcy⟩ := Kd.at_int hC y hy.1 hy.2.1
  injection e2 with e2
  subst e2
  have t1 : (0 ≤ x) = True := eq_true hx.1
  have t2 : (x < (u.length : Int)) = True := eq_true hx.2.1
  have t3 : (0 ≤ y) = True := eq_true hy.1
  have t4 : (y < (u.length : Int)) = True := eq_true hy.2.1
  have tw : wrap64 (rd u x - rd u y) = rd u x - rd u y := w64_small (by omega) (by omega)
  have tw2 : IntKind.i64.wrap (rd u x - rd u y) = rd u x - rd u y := IntWalk.i64_in _ (by omega)
  clear hx hy hC
  go_enter Tryz.func118, Tryz.ntmps118
  go_wp2
  repeat (go_quiet (fail); try go_wp2)
  go_ret
  exact ⟨by first | rfl | rw [tw] | rw [tw2], _, rfl⟩
theorem sort_any {u l : List Int} {vu : Value} {b : Nat} {A : Option Addr} {c base : Nat} {ok : Nat → Prop} {w W : World} (h : Kd.R (Kd.int .i64) 3 W base ok (.slice A l.length c) l) (hbase : w.heap.size ≤ base) (HB : Below w.heap.size w W) (hg : goodKeys u l = true)
    (hst : ∀ W' : World, (∀ k, k < W.heap.size → some k ≠ (Value.slice A l.length c).ownBlock → W'.heap[k]? = W.heap[k]?) → W'.cell? ⟨b, 0, none⟩ = some vu ∧ PermAt W' vu u) :
    Calls Tryz.prog 117 #[.slice A l.length c, .func (.func 118) #[] #[.pointer (some ⟨b, 0, none⟩)]] W fun e w' => e = .returned (.tuple #[]) ∧ Kd.R (Kd.int .i64) 3 w' base ok (.slice A l.length c) (sortKey (rd u) l) ∧ Below w.heap.size w w' ∧ ∀ k, k < W.heap.size → some k ≠ (Value.slice A l.length c).ownBlock → w'.heap[k]? = W.heap[k]? := by
  obtain ⟨h1, h2, h3, h4⟩ := goodKeys_at hg
  exact sortKey_row sortK 118 #[.pointer (some ⟨b, 0, none⟩)] (enters_of Tryz.func118 (by kernel_rfl) rfl) (rd u) h hbase HB h1 (by omega) h4
    (fun W' hW' x hx y hy => cmp_any u vu b x y W' (hst W' hW').1 (hst W' hW').2 (h3 x hx) (h3 y hy))
theorem hst3 {u l : List Int} {vu : Value} {w w3 : World} {base : Nat} {ok : Nat → Prop} {A3 : Option Addr} {c3 t : Nat} (HU : Kd.R (Kd.int .i64) 3 w base ok vu u) (HB3 : Below (w.alloc (.cells #[vu] t)).heap.size (w.alloc (.cells #[vu] t)) w3)
    (HR3 : Kd.R (Kd.int .i64) 3 w3 (w.alloc (.cells #[vu] t)).heap.size (fun _ => True) (.slice A3 l.length c3) l) (W' : World)
    (h : ∀ k, k < w3.heap.size → some k ≠ (Value.slice A3 l.length c3).ownBlock → W'.heap[k]? = w3.heap[k]?) : W'.cell? ⟨w.heap.size, 0, none⟩ = some vu ∧ PermAt W' vu u := by
  have hsz : (w.alloc (.cells #[vu] t)).heap.size = w.heap.size + 1 := by simp
  have hb3 : ∀ b, (Value.slice A3 l.length c3).ownBlock = some b → w.heap.size + 1 ≤ b := fun b hb => by have := Kd.R_base HR3 b hb; omega
  have hs3 := HB3.size
  have old : ∀ b, b ≤ w.heap.size → W'.heap[b]? = (w.alloc (.cells #[vu] t)).heap[b]? := fun b hb =>
    (h b (by omega) (fun e => by have := hb3 b e.symm; omega)).trans (HB3.block b (by omega))
  refine ⟨cell_move (w := w.alloc (.cells #[vu] t)) (by rw [World.cell?_alloc_at _ _ _ _ rfl]; rfl) (fun _ => old _ (Nat.le_refl _)), ?_⟩
  exact PermAt.of_R (Kd.R_step HU (fun b _ hlt => (old b (by omega)).trans (Below.heap_alloc _ _ _ hlt)))
theorem fresh_role {W0 w : World} {c bC bo bM : Nat} {σ : Nat → Nat} {vout : Value} {outs : List (List Int)} (h : ElSt W0 c bC bo bM σ w vout outs) {b : Nat} (hb : w.heap.size ≤ b) : σ b = 0 ∧ b ≠ bC ∧ b ≠ bM := by
  have h1 : bC < w.heap.size := World.block_lt_of_cell? w ⟨bC, 0, none⟩ h.cC
  have h2 : bM < w.heap.size := World.block_lt_of_cell? w ⟨bM, 0, none⟩ h.cM
  exact ⟨h.fresh b hb, by omega, by omega⟩
def Mored (W0 : World) (c bC bo bM : Nat) (vu : Value) (σ : Nat → Nat) (w : World) (outs' : List (List Int)) (e : Ending) (w' : World) : Prop :=
  e = .returned (.tuple #[]) ∧ ∃ σ' vout', ElSt W0 c bC bo bM σ' w' vout' outs' ∧ Kp vu σ σ' w w'
set_option maxHeartbeats 16000000 in
set_option maxRecDepth 100000 in
theorem more_any {ρ : Nat → Nat} {W0 : World} {base c capL : Nat} {la : Option Addr} {C : Ch} {d : Nat → LD} (hR : ChainAt ρ W0 base c la capL C d) (bC bo bM : Nat) :
    ∀ (q k : Nat) (u : List Int) (vu : Value) (outs outs' : List (List Int)) (w : World) (σ : Nat → Nat) (vout : Value), ElSt W0 c bC bo bM σ w vout outs → k ≤ C.n → Kd.R (Kd.int .i64) 3 w W0.heap.size (fun b => σ b = 0 ∧ b ≠ bC ∧ b ≠ bM) vu u → more q C k u outs = some outs' →
      Calls Tryz.prog 115 #[.int .i64 (k : Int), vu, .pointer (some ⟨bC, 0, none⟩), .pointer (some ⟨bo, 0, none⟩), .pointer (some ⟨bM, 0, none⟩)] w (Mored W0 c bC bo bM vu σ w outs') := by
  have HR := Aside0.mk hR
  have hsm := hR.small
  clear hR
  have hmf : ∀ (fn : Fn) (first cap : Array Value) (w : World), (Instr.makeFunc fn first cap).run Tryz.prog w = .ok (.func fn first cap) w := fun _ _ _ _ => rfl
  intro q
  induction q with
  | zero => intro k u vu outs outs' w σ vout _ _ _ h; cases h
  | succ q ih =>
    intro k u vu outs outs' w σ vout hE hk hu h
    have IH := Aside0.mk ih
    clear ih
    have HE := Aside0.mk hE
    have HU := Aside0.mk hu
    have hcC := hE.cC
    have hcO := hE.cO
    have hfO := hE.fO
    have hn := (HR.out.below hE.bel).hn
    have hl := (HR.out.below hE.bel).hl
    have hlcap := HR.out.hcap
    have hClt : bC < w.heap.size := World.block_lt_of_cell? w ⟨bC, 0, none⟩ hcC
    have hOlt : bo < w.heap.size := World.block_lt_of_cell? w ⟨bo, 0, none⟩ hcO
    have hclt : c < w.heap.size := World.block_lt_of_cell? w ⟨c, 0, none⟩ hn
    obtain ⟨Au, cu, eu⟩ := Kd.R_slice hu
    subst eu
    rw [more] at h
    by_cases hkn : k = C.n
    · rw [if_pos hkn] at h
      by_cases hlen : outs.length < 100000
      · rw [if_pos hlen] at h
        obtain rfl := Option.some.inj h
        have HLEN := Aside0.mk hlen
        have t1 : ((k : Int) == (C.n : Int)) = true := by rw [beq_iff_eq]; omega
        have t2 : (k == C.n) = true := by rw [beq_iff_eq]; exact hkn
        have t3 : (k = C.n) = True := eq_true hkn
        clear h hlen hE hu hk hsm hkn
        go_enter Tryz.func115, Tryz.ntmps115
        have HWB := Aside0.mk (below_alloc (Below.refl w.heap.size w) (.cells #[.slice Au u.length cu] 39))
        have HE2 := Aside0.mk (HE.out.below HWB.out)
        have hU0 : ∀ b, (Value.slice Au u.length cu).ownBlock = some b → σ b = 0 ∧ b < (w.alloc (.cells #[.slice Au u.length cu] 39)).heap.size ∧ b ≠ bC ∧ b ≠ bM ∧ W0.heap.size ≤ b := fun b hb => ⟨(HU.out.1 b hb).1, Nat.lt_of_lt_of_le (Kd.R_lt HU.out b hb) HWB.out.size, (HU.out.1 b hb).2.1, (HU.out.1 b hb).2.2, Kd.R_base HU.out b hb⟩
        have HU0 := Aside0.mk hU0
        have HUA := Aside0.mk (Kd.R_below HU.out HWB.out)
        have HNV := Aside0.mk (show some bo ≠ vout.ownBlock from fun e => by have h1 := HE.out.ro _ e.symm; rw [HE.out.bO] at h1; cases h1)
        clear hU0
        go_wp2_with ((with_reducible refine gate_builtin (b := .append) (xs := #[.tmp 17, .tmp 19]) rfl ?_); at_builtin; refine Kd.S_append (Kd.slice 3 (Kd.int .i64)) (w0 := W0) (W := w.alloc (.cells #[.slice Au u.length cu] 39)) W0.heap.size rfl (.tmp 17) (.tmp 19) 22 39 (.slice none 0 0) 24 rfl Tryz.underlying22 perm_info rfl (by decide) (by omega) vout outs u [.slice Au u.length cu] (fun b => σ b = 1 ∨ σ b = 2 ∨ some b = (Value.slice Au u.length cu).ownBlock ∨ (w.alloc (.cells #[.slice Au u.length cu] 39)).heap.size ≤ b) (fun b => some b = (Value.slice Au u.length cu).ownBlock) rfl ?aX ?aP ?aK ?aF ?aO ?aB ?aS ?aL ?_; (case aX => show Value.slice (some ⟨w.heap.size + 1, 0, none⟩) 1 1 = _; simp); (case aP => exact ⟨_, rfl, Kd.R_tight rfl HUA.out⟩); (case aK => exact fun b hb => ⟨.inr (.inr (.inl hb)), fun e => by have h1 := HE.out.ro b e.symm; have h2 := (HU0.out b hb.symm).1; omega⟩); (case aF => exact fun b hb => .inr (.inr (.inr hb))); (case aO => exact Kd.S_mono HE2.out.row (fun b hb => ⟨hb.elim .inl (fun h => .inr (.inl h)), fun e => by have h2 := (HU0.out b e.symm).1; omega⟩)); (case aB => exact HE2.out.bel); (case aS => exact HE2.out.bel.size); (case aL => have := HLEN.out; omega); intro v1 w1 ho hb hg hat; obtain ⟨Ao1, co1, eo1⟩ := Kd.R_slice (Kd.S_R ho); subst eo1; obtain ⟨σ', E', K'⟩ := HE2.out.push HU0.out ho hb hg hat; have hcO1 := cell_move hcO (fun hlt => (hg.block bo (Nat.lt_of_lt_of_le hlt HWB.out.size) HNV.out).trans (HWB.out.block bo hlt)); have hfO1 := ((World.frozen?_of_block (w := w) (w' := w1) (a := ⟨bo, 0, none⟩) ((hg.block bo (Nat.lt_of_lt_of_le hOlt HWB.out.size) HNV.out).trans (HWB.out.block bo hOlt)))).trans hfO; have el : (outs ++ [u]).length = outs.length + 1 := (by simp); rw [el] at E' K'; have HE3 := Aside0.mk E'; have HK3 := Aside0.mk (K'.pre HWB.out); clear ho hg hat hb E' K' el)
        go_end0
        exact ⟨rfl, σ', _, HE3.out, HK3.out⟩
      · rw [if_neg hlen] at h; cases h
    · rw [if_neg hkn] at h
      replace h := Option.bind_eq_some_iff.1 h
      obtain ⟨L, hL, h⟩ := h
      have HGK : Aside0 (goodKeys u L.orbit = true) := by
        by_cases e : goodKeys u L.orbit = true
        · exact ⟨e⟩
        · rw [if_neg e] at h; cases h
      rw [if_pos HGK.out] at h
      have H := Aside0.mk h
      have hkl : k < C.n := by omega
      have HKL := Aside0.mk hkl
      obtain ⟨bls, ela, rls, hcl⟩ := (HR.out.below hE.bel).ls (by omega)
      subst ela
      have hlev := hcl k hkl
      have hblt : bls < w.heap.size := World.block_lt_of_cell? w ⟨bls, k, none⟩ hlev
      have LV := (HR.out.below hE.bel).lv k L hL
      have hvo := LV.c1
      have hdlt : (d k).bl < w.heap.size := LV.blt
      have t1 : ((k : Int) == (C.n : Int)) = false := by rw [beq_eq_false_iff_ne]; omega
      have t2 : (k == C.n) = false := by rw [beq_eq_false_iff_ne]; exact hkn
      have t3 : (k = C.n) = False := eq_false hkn
      have t4 : ((k : Int) < (C.n : Int)) = True := eq_true (by omega)
      have t5 : (0 ≤ (k : Int)) = True := eq_true (by omega)
      have t6 : (k < C.n) = True := eq_true hkl
      have HL := Aside0.mk hL
      have HWB := Aside0.mk (below_alloc (Below.refl w.heap.size w) (.cells #[.slice Au u.length cu] 39))
      have HVO := Aside0.mk (LV.move (w' := w.alloc (.cells #[.slice Au u.length cu] 39)) (fun _ _ => rfl) (fun b hlt _ => HWB.out.block b hlt)).orb_at
      have hwlt : w.heap.size < (w.alloc (.cells #[.slice Au u.length cu] 39)).heap.size := by simp
      have HWLT := Aside0.mk hwlt
      have HSMM := Aside0.mk hsm
      clear h hE hu hk hsm hkn hkl hcl rls LV hL hwlt
      go_enter Tryz.func115, Tryz.ntmps115
      go_wp2_with (first
        | (go_at_call 116; (refine (clone_any HVO.out (by have := (goodKeys_at HGK.out).2.1; omega)).mono ?_); rintro e w3 ⟨v3, rfl, hr3, hb3⟩; have HR3 := Aside0.mk hr3; have HB3 := Aside0.mk hb3; obtain ⟨A3, c3, rfl⟩ := Kd.R_slice hr3; clear hr3 hb3))
      have HST := Aside0.mk (hst3 HU.out HB3.out HR3.out)
      go_wp2_with (first
        | (go_at_call 117; (refine (sort_any (u := u) (vu := .slice Au u.length cu) (b := w.heap.size) (w := w) (ok := fun _ => True) (base := (w.alloc (.cells #[.slice Au u.length cu] 39)).heap.size) HR3.out (Nat.le_of_lt HWLT.out) (below_then HWB.out HWB.out.size HB3.out) HGK.out ?hst).mono ?_); (case hst => exact HST.out); rintro e w4 ⟨rfl, hr4, hb4, hk4⟩; have HR4 := Aside0.mk hr4; have HB4 := Aside0.mk hb4; have HK4 := Aside0.mk hk4; clear hr4 hb4 hk4))
      have hst := HST.out w4 HK4.out
      clear HST
      have HBox := Aside0.mk hst.1
      have HE4 := Aside0.mk (HE.out.below HB4.out)
      have HIm : Aside0 (Kd.R (Kd.int .i64) 3 w4 W0.heap.size (fun b => σ b = 0 ∧ b ≠ bC ∧ b ≠ bM) (.slice A3 L.orbit.length c3) (sortKey (rd u) L.orbit)) := ⟨by
        have h1 := Kd.R_bound HR4.out
        refine Kd.R_lower (Kd.R_mono h1 (fun b hb => ?_)) (Nat.le_trans HE.out.bel.size (Nat.le_of_lt HWLT.out))
        have h2 : w.heap.size ≤ b := Nat.le_trans (Nat.le_of_lt HWLT.out) hb.2.1
        have h3 := World.block_lt_of_cell? w ⟨bM, 0, none⟩ HE.out.cM
        have h4 : bM < w.heap.size := h3
        exact ⟨HE.out.fresh b h2, by omega, by omega⟩⟩
      have HU4 := Aside0.mk (Kd.R_below HU.out HB4.out)
      have HQ4 := Aside0.mk (Kq.of_below (σ := σ) HB4.out)
      have hsl : (sortKey (rd u) L.orbit).length = L.orbit.length := (sortKey_perm _ _).length_eq
      have HSL := Aside0.mk hsl
      have HBX0 : Aside0 (σ w.heap.size = 0) := ⟨HE.out.fresh _ (Nat.le_refl _)⟩
      clear hst hsl hcC hcO hfO hn hl hlev hvo hblt hdlt HVO HR3 HB3 HR4 HB4 HK4 hClt hOlt hclt
      go_loopg [39] L.orbit.length (fun kq v39 w' => ∃ (j : Nat) (σ_ : Nat → Nat) (vout_ : Value) (outs_ : List (List Int)), v39 = .int .i64 (j : Int) ∧ Aside0 (ElSt W0 c bC bo bM σ_ w' vout_ outs_) ∧ Aside0 (Kq σ σ_ w w') ∧ Aside0 (Kd.R (Kd.int .i64) 3 w' W0.heap.size (fun b => σ_ b = 0 ∧ b ≠ bC ∧ b ≠ bM) (.slice A3 L.orbit.length c3) (sortKey (rd u) L.orbit)) ∧ Aside0 (Kd.R (Kd.int .i64) 3 w' W0.heap.size (fun b => σ_ b = 0 ∧ b ≠ bC ∧ b ≠ bM) (.slice Au u.length cu) u) ∧ Aside0 (w'.cell? ⟨w.heap.size, 0, none⟩ = some (.slice Au u.length cu)) ∧ Aside0 (σ_ w.heap.size = 0) ∧ Aside0 (eachM (fun out x => (C.word k x).bind fun o => o.bind fun w => (mulO w u).bind fun u' => more q C (k + 1) u' out) ((sortKey (rd u) L.orbit).drop j) outs_ = some outs') ∧ Aside0 (j + kq = L.orbit.length))
      case atStart => exact ⟨0, σ, vout, outs, (by first | rfl | (simp; done)), HE4, HQ4, HIm, HU4, HBox, HBX0, H, ⟨by omega⟩⟩
      case round =>
        clear HE4 HQ4 HIm HU4 HBox HBX0 H HE HU
        obtain ⟨j, σ_, vout_, outs_, rfl, HE_, HQ_, HIm, HU, HBox, HBX, HA, HJ⟩ := hrel
        have h := HA.out
        clear HA
        cases gk with
        | zero =>
          have hj : (j < L.orbit.length) = False := eq_false (by have := HJ.out; omega)
          rw [List.drop_eq_nil_of_le (by have := HJ.out; have := HSL.out; omega)] at h
          obtain rfl := Option.some.inj h
          clear h
          go_wp2
          go_end0
          exact ⟨rfl, σ_, vout_, HE_.out, HQ_.out.kp _⟩
        | succ m1 =>
          have hjl : j < L.orbit.length := by have := HJ.out; omega
          have hj : (j < L.orbit.length) = True := eq_true hjl
          have hj2 : ((j : Int) < (L.orbit.length : Int)) = True := eq_true (by omega)
          have hj0 : (0 ≤ (j : Int)) = True := eq_true (by omega)
          have HJ2 : Aside0 (j + 1 + m1 = L.orbit.length) := ⟨by have := HJ.out; omega⟩
          have hjs : j < (sortKey (rd u) L.orbit).length := by have := HSL.out; omega
          rw [List.drop_eq_getElem_cons hjs, eachM] at h
          obtain ⟨A3', c3', e3, hc3, hC3⟩ := Kd.R_reads HIm.out
          injection e3 with e3a e3b e3c
          subst e3a; subst e3c
          clear e3b
          obtain ⟨ad3, e3, hcell3⟩ := Kd.at_int hC3 (j : Int) (by omega) (by omega)
          subst e3
          rw [rd_get _ _ hjs, Int.toNat_natCast] at hcell3
          replace h := Option.bind_eq_some_iff.1 h
          obtain ⟨outs2, h1, h⟩ := h
          replace h1 := Option.bind_eq_some_iff.1 h1
          obtain ⟨o, hw, h1⟩ := h1
          replace h1 := Option.bind_eq_some_iff.1 h1
          obtain ⟨wd, ho, h1⟩ := h1
          subst ho
          replace h1 := Option.bind_eq_some_iff.1 h1
          obtain ⟨u', h1, h2⟩ := h1
          obtain ⟨x0, L_, hL_, ho⟩ := word_some hw
          have R := HR.out.below HE_.out.bel
          have LV_ := R.lv k L_ hL_
          obtain ⟨X, hX⟩ : ∃ X : Nat, (sortKey (rd u) L.orbit)[j] = (X : Int) := ⟨(sortKey (rd u) L.orbit)[j].toNat, by omega⟩
          rw [hX] at ho hcell3
          rw [Int.toNat_natCast] at ho
          obtain ⟨hxn, wv, hv, _, hwd⟩ := LV_.word ho
          obtain ⟨aw, cw, ew, hcw, hCw⟩ := hwd.1.addr hwd.2
          rw [ew] at hv
          have hrow := LV_.c2
          have hcM := HE_.out.cM
          have hbox := HBox.out
          have t7 : ((X : Int) < (C.n : Int)) = True := eq_true (by omega)
          have t8 : (0 ≤ (X : Int)) = True := eq_true (by omega)
          have A1' := Aside0.mk h1
          have A2' := Aside0.mk h2
          have H := Aside0.mk h
          have wi : wrap64 ((j : Int) + 1) = ((j + 1 : Nat) : Int) := (IntWalk.wrap64_in _ ⟨by omega, by have := (goodKeys_at HGK.out).2.1; omega⟩).trans (by omega)
          have wk : IntKind.i64.wrap ((k : Int) + 1) = ((k + 1 : Nat) : Int) := (IntWalk.i64_in _ (by have := HKL.out; have := HSMM.out; omega)).trans (by omega)
          have wk2 : wrap64 ((k : Int) + 1) = ((k + 1 : Nat) : Int) := (IntWalk.wrap64_in _ ⟨by omega, by have := HKL.out; have := HSMM.out; omega⟩).trans (by omega)
          clear h h1 h2 hwd ho hX hL_ LV_ hw ew hC3 hc3 R
          go_upto_region 9 with fail
          go_region_with (first
            | (go_at_call 106; (refine (mul_any A1'.out ⟨_, _, rfl, hcw, ?s1⟩ (PermAt.below (w := wr) (PermAt.of_R HU.out) bel0)).mono ?_); (case s1 => exact hCw); rintro e w6 ⟨v6, rfl, hr6, hb6⟩; have HR6 := Aside0.mk hr6; have HB6 := Aside0.mk (below_step (w := wr) bel0 hb6); obtain ⟨A6, c6, rfl⟩ := Kd.R_slice hr6; have hcM6 := cell_move hcM (fun hlt => HB6.out.block _ hlt); clear hr6 hb6)
            | (go_at_call 115; rw [show ((k : Int) + 1) = ((k + 1 : Nat) : Int) from rfl]; (refine (IH.out (k + 1) u' _ outs_ outs2 w6 σ_ vout_ (HE_.out.below HB6.out) HKL.out (Kd.R_lower (Kd.R_mono (Kd.R_bound HR6.out) (fun b hb => fresh_role HE_.out hb.2.1)) HE_.out.bel.size) A2'.out).mono ?_); rintro e w8 ⟨rfl, σ2, vout2, hE2, hK2⟩; have HE2 := Aside0.mk hE2; have HQ2 := Aside0.mk (hK2.quiet HB6.out (fun b hb => Kd.R_base HR6.out b hb)); clear hE2 hK2))
          all_goals
            have HIm2 := Aside0.mk (HQ2.out.row HIm.out)
            have HU2 := Aside0.mk (HQ2.out.row HU.out)
            have HBox2 := Aside0.mk (HQ2.out.cell HBX.out hbox)
            have HQ3 := Aside0.mk (HQ_.out.trans HQ2.out)
            have HBX2 : Aside0 (σ2 w.heap.size = 0) := ⟨(HQ2.out.role _ (World.block_lt_of_cell? wr ⟨w.heap.size, 0, none⟩ hbox)).trans HBX.out⟩
            go_wp2
            go_roundg m1
            case measure => exact Nat.lt_succ_self _
            case rel => exact ⟨j + 1, σ2, vout2, outs2, (by first | rfl | (rw [wi]; done) | (simp [wi]; done)), HE2, HQ3, HIm2, HU2, HBox2, HBX2, H, HJ2⟩
end Go.Proofs.YtmbldnoepjmhhaaGreat.Bs
end
section
/- The walk of (*Chain).Elements. -/
namespace Go.Proofs.YtmbldnoepjmhhaaGreat.Bs
open Go.RowKit Go.Sort Go.Shelf Go.Proofs.YtmbldnoepjmhhaaGreatW.PrintWords Go.Proofs.YtmbldnoepjmhhaaGreatW.PrintLast Go.Proofs.YtmbldnoepjmhhaaGreatW.PrintMore Go.Proofs.YtmbldnoepjmhhaaGreat.Plain Go.Proofs.YtmbldnoepjmhhaaGreat.PBs
attribute [local go_sem] max2_int min2_int max_two min_two max_three min_three max_four min_four
def Perms (w0 w' : World) (e : Ending) (E : List (List Int)) : Prop := ∃ v, e = .returned v ∧ Kd.S (Kd.slice 3 (Kd.int .i64)) 39 w' w0.heap.size (fun _ => True) v E ∧ Below w0.heap.size w0 w'
set_option maxHeartbeats 16000000 in
set_option maxRecDepth 100000 in
theorem elements_any {ρ : Nat → Nat} {w : World} {base c capL : Nat} {la : Option Addr} {C : Ch} {d : Nat → LD} {E : List (List Int)} (hR : ChainAt ρ w base c la capL C d) (h : elements C = some E) :
    Calls Tryz.prog 80 #[.pointer (some ⟨c, 0, none⟩)] w (fun e w' => Perms w w' e E) := by
  have hmf : ∀ (fn : Fn) (first cap : Array Value) (w : World), (Instr.makeFunc fn first cap).run Tryz.prog w = .ok (.func fn first cap) w := fun _ _ _ _ => rfl
  have hsf : ∀ (a : Addr) (fn : Fn) (first captured : Array Value) (m : Mode) (w : World), (store a (.func fn first captured) m).run Tryz.prog w = stored Tryz.prog w a (.func fn first captured) m := fun a fn f c m w => run_store Tryz.prog w a _ m rfl
  have HR := Aside0.mk hR
  have hn := hR.hn
  have hclt : c < w.heap.size := World.block_lt_of_cell? w ⟨c, 0, none⟩ hn
  have hclt1 : c < w.heap.size + 1 := by omega
  have hclt2 : c < w.heap.size + 1 + 1 := by omega
  have H := Aside0.mk h
  clear hR h
  go_enter Tryz.func80, Tryz.ntmps80
  go_upto_region 4 with fail
  have hE0 : ElSt w c w.heap.size (w.heap.size + 1) (w.heap.size + 1 + 1) (fun b => if b = w.heap.size + 1 then 3 else 0) (((w.alloc (.cells #[.pointer (some ⟨c, 0, none⟩)] 95)).alloc (.cells #[.slice none 0 0] 22)).alloc (.cells #[.func (.func 115) #[] #[.pointer (some ⟨w.heap.size, 0, none⟩), .pointer (some ⟨w.heap.size + 1, 0, none⟩), .pointer (some ⟨w.heap.size + 1 + 1, 0, none⟩)]] 122)) (.slice none 0 0) [] := {
    bel := below_alloc (below_alloc (below_alloc (Below.refl _ _) _) _) _
    fresh := fun b hb => if_neg (by simp at hb; omega)
    old := fun b hb => if_neg (by omega)
    bO := if_pos rfl
    cO := by rw [World.cell?_alloc_past _ _ _ (by simp), World.cell?_alloc_at _ _ _ _ (by simp)]; rfl
    fO := by rw [World.frozen?_alloc_past _ _ _ (by simp), World.frozen?_alloc_at _ _ _ _ (by simp)]
    bC0 := if_neg (by omega)
    cC := by rw [World.cell?_alloc_past _ _ _ (by simp; omega), World.cell?_alloc_past _ _ _ (by simp), World.cell?_alloc_at _ _ _ _ rfl]; rfl
    bM0 := if_neg (by omega)
    cM := by rw [World.cell?_alloc_at _ _ _ _ (by simp)]; rfl
    ro := fun b hb => by simp [Value.ownBlock] at hb
    row := Kd.S_nil _ _ _ _ _ }
  have HE0 := Aside0.mk hE0
  have HSM := Aside0.mk HR.out.small
  clear hE0
  go_cut [] (fun wx => ∃ (σ2 : Nat → Nat) (vout2 : Value), Aside0 (ElSt w c w.heap.size (w.heap.size + 1) (w.heap.size + 1 + 1) σ2 wx vout2 E))
  case first =>
    go_region_with (first
      | (go_at_call 119; (refine (id_any C.n (by have := HSM.out; omega) _).mono ?_); rintro e w6 ⟨v6, rfl, hr6, hb6⟩; have HR6 := Aside0.mk hr6; have HB6 := Aside0.mk (below_step (w := (((w.alloc (.cells #[.pointer (some ⟨c, 0, none⟩)] 95)).alloc (.cells #[.slice none 0 0] 22)).alloc (.cells #[.func (.func 115) #[] #[.pointer (some ⟨w.heap.size, 0, none⟩), .pointer (some ⟨w.heap.size + 1, 0, none⟩), .pointer (some ⟨w.heap.size + 1 + 1, 0, none⟩)]] 122))) bel0 hb6); obtain ⟨A6, c6, rfl⟩ := Kd.R_slice hr6; have HE6 := Aside0.mk (HE0.out.below HB6.out); have hcM6 := HE6.out.cM; have hcC6 := HE6.out.cC; have hn6 := (HR.out.below HE6.out.bel).hn; clear hr6 hb6)
      | (go_at_call 115; (refine (more_any HR.out w.heap.size (w.heap.size + 1) (w.heap.size + 1 + 1) 30 0 (idL C.n) _ [] E w6 _ _ HE6.out (Nat.zero_le _) (Kd.R_lower (Kd.R_mono (Kd.R_bound HR6.out) (fun b hb => fresh_role HE0.out hb.2.1)) HE0.out.bel.size) H.out).mono ?_); rintro e w8 ⟨rfl, σ2, vout2, hE2, hK2⟩; have HE2 := Aside0.mk hE2; clear hE2 hK2))
    all_goals
      go_wp2_with fail
      go_meet
      exact ⟨σ2, vout2, HE2⟩
  case rest =>
    obtain ⟨σ2, vout2, HE2⟩ := hcut
    have hcO := HE2.out.cO
    obtain ⟨A2, c2, e2⟩ := Kd.R_slice (Kd.S_R HE2.out.row)
    subst e2
    go_wp2
    go_ret
    exact ⟨_, rfl, Kd.S_mono HE2.out.row (fun _ _ => trivial), HE2.out.bel⟩
end Go.Proofs.YtmbldnoepjmhhaaGreat.Bs
end
section
/- The walk of Reduced. -/
namespace Go.Proofs.YtmbldnoepjmhhaaGreat.Bs
open Go.RowKit Go.Sort Go.Shelf Go.Proofs.YtmbldnoepjmhhaaGreatW.PrintWords Go.Proofs.YtmbldnoepjmhhaaGreatW.PrintLast Go.Proofs.YtmbldnoepjmhhaaGreatW.PrintMore Go.Proofs.YtmbldnoepjmhhaaGreat.Plain Go.Proofs.YtmbldnoepjmhhaaGreat.PBs
attribute [local go_sem] max2_int min2_int max_two min_two max_three min_three max_four min_four
structure RedAt (W0 : World) (svs : List Sv) (all : List (List Int)) (ρ : Nat → Nat) (w : World) (c capL : Nat) (la : Option Addr) (C : Ch) (d : Nat → LD) (vo : Value) (outs : List (List Int)) (idx : List Nat) : Prop where
  ch : ChainAt ρ w W0.heap.size c la capL C d
  bel : Below W0.heap.size W0 w
  row : Kd.R kv 39 w W0.heap.size (fun b => ρ b = 2000) vo (idx.map fun i => svs.getD i (none, 0, 0))
  outs_ : outs = idx.map fun i => all.getD i []
  asc : idx.Pairwise (· < ·)
theorem RedAt.below {W0 : World} {svs : List Sv} {all : List (List Int)} {ρ : Nat → Nat} {w w' : World} {c capL : Nat} {la : Option Addr} {C : Ch} {d : Nat → LD} {vo : Value} {outs : List (List Int)} {idx : List Nat} (h : RedAt W0 svs all ρ w c capL la C d vo outs idx) (hb : Below w.heap.size w w') : RedAt W0 svs all ρ w' c capL la C d vo outs idx :=
  ⟨h.ch.below hb, below_then h.bel h.bel.size hb, Kd.R_below h.row hb, h.outs_, h.asc⟩
theorem RedAt.grew {W0 : World} {svs : List Sv} {all : List (List Int)} {ρ ρ' : Nat → Nat} {w w' : World} {c capL : Nat} {la : Option Addr} {C C' : Ch} {d d' : Nat → LD} {vo : Value} {outs : List (List Int)} {idx : List Nat} (h : RedAt W0 svs all ρ w c capL la C d vo outs idx)
    (hC : ChainAt ρ' w' W0.heap.size c la capL C' d') (hS : Step W0.heap.size ρ ρ' w w') : RedAt W0 svs all ρ' w' c capL la C' d' vo outs idx :=
  ⟨hC, h.bel.trans hS.bel, Kd.R_mono (Kd.R_step (Kd.R_bound h.row) (fun b hb hlt => hS.keep b hlt (.inr (by have := hb.1; omega)))) (fun b hb => (hS.role b hb.2.2.1).trans hb.1), h.outs_, h.asc⟩
theorem RedAt.push {W0 : World} {svs : List Sv} {all : List (List Int)} {ρ : Nat → Nat} {w w1 : World} {c capL : Nat} {la : Option Addr} {C : Ch} {d : Nat → LD} {vo v1 : Value} {outs : List (List Int)} {idx : List Nat} (h : RedAt W0 svs all ρ w c capL la C d vo outs idx) {i : Nat} (hi : ∀ j ∈ idx, j < i)
    (hR : Kd.R kv 39 w1 W0.heap.size (fun b => ρ b = 2000 ∨ w.heap.size ≤ b) v1 ((idx.map fun i => svs.getD i (none, 0, 0)) ++ [svs.getD i (none, 0, 0)])) (hb : Below W0.heap.size W0 w1) (hg : w.grownBy w1 vo.ownBlock) :
    ∃ ρ', RedAt W0 svs all ρ' w1 c capL la C d v1 (outs ++ [all.getD i []]) (idx ++ [i]) := by
  have hvo : ∀ b, vo.ownBlock = some b → ρ b = 2000 := h.row.1
  refine ⟨fun b => if w.heap.size ≤ b ∧ b < w1.heap.size then 2000 else ρ b, h.ch.beside hg.size (fun b hlt => if_neg (by omega)) (fun b hle => ?_) (fun b hne => ?_) (fun b hlt hr => hg.block b hlt (fun e => by have := hvo b e.symm; omega)), hb, ?_, ?_, ?_⟩
  · show (if w.heap.size ≤ b ∧ b < w1.heap.size then 2000 else ρ b) = 0
    rw [if_neg (by omega)]
    exact h.ch.fresh b (Nat.le_trans hg.size hle)
  · by_cases e : w.heap.size ≤ b ∧ b < w1.heap.size
    · have := h.bel.size; omega
    · have hne' : (if w.heap.size ≤ b ∧ b < w1.heap.size then 2000 else ρ b) ≠ 0 := hne
      rw [if_neg e] at hne'
      exact h.ch.rb b hne'
  · rw [List.map_append]
    refine Kd.R_mono (Kd.R_bound hR) (fun b hb2 => ?_)
    show (if w.heap.size ≤ b ∧ b < w1.heap.size then 2000 else ρ b) = 2000
    by_cases e : w.heap.size ≤ b ∧ b < w1.heap.size
    · rw [if_pos e]
    · rw [if_neg e]
      rcases hb2.1 with h1 | h1
      · exact h1
      · exact absurd ⟨h1, hb2.2.2.1⟩ e
  · rw [List.map_append, h.outs_]; rfl
  · rw [List.pairwise_append]
    exact ⟨h.asc, List.pairwise_singleton _ _, fun a ha b hb => by rw [List.mem_singleton] at hb; subst hb; exact hi a ha⟩
theorem PermIn.keep {ρ' : Nat → Nat} {w w' : World} {v : Value} {p : List Int} {N : Nat} (h : PermAt w v p) (hN : w.heap.size ≤ N) (hb : Below N w w') (hρ : ∀ b, b < w.heap.size → ρ' b = 0) : PermIn ρ' w' v p :=
  (permIn_old (ρ := ρ') h hρ).move (fun b hlt hr => ⟨hr, hb.block b (Nat.lt_of_lt_of_le hlt hN)⟩)
theorem idx_row {svs : List Sv} {all : List (List Int)} {idx : List Nat} {f : Nat → Nat} {w w' : World} {base e : Nat} {ok : Nat → Prop} {v vall : Value} {outs : List (List Int)} (hlen : svs.length = all.length) (hR : Kd.R kv e w' w.heap.size ok v (idx.map fun i => svs.getD i (none, 0, 0))) (hbase : base ≤ w.heap.size)
    (ho : outs = idx.map fun i => all.getD i []) (hasc : idx.Pairwise (· < ·)) (hlt : ∀ i ∈ idx, i < all.length) (hb : Below w.heap.size w w')
    (h : ∀ (i : Nat) (sv : Sv) (p : List Int), svs[i]? = some sv → all[i]? = some p → Kd.R (Kd.int .i64) 3 w base (fun b => True ∧ some b ≠ vall.ownBlock ∧ f b = i) (svE sv) p) : Kd.S (Kd.slice 3 (Kd.int .i64)) e w' base (fun _ => True) v outs := by
  have hnd : idx.Nodup := by rw [List.nodup_iff_pairwise_ne]; exact hasc.imp (fun h => by omega)
  refine S_pack (fun b => idx.idxOf (f b)) (by rw [ho]; simp) (Kd.R_lower hR hbase) (fun _ _ => trivial) (fun t sv p hsv hp => ?_)
  rw [ho, List.getElem?_map] at hp
  rw [List.getElem?_map] at hsv
  obtain ⟨i, hi, rfl⟩ := Option.map_eq_some_iff.1 hsv
  rw [hi] at hp
  obtain rfl := Option.some.inj hp
  have hmem : i ∈ idx := List.mem_of_getElem? hi
  have hil := hlt i hmem
  have h1 := h i (svs.getD i (none, 0, 0)) (all.getD i []) (by rw [List.getD_eq_getElem?_getD, List.getElem?_eq_getElem (by omega)]; rfl) (by rw [List.getD_eq_getElem?_getD, List.getElem?_eq_getElem hil]; rfl)
  have h2 := Kd.R_bound h1
  refine Kd.R_below (Kd.R_mono h2 (fun b hb2 => ⟨trivial, fun e => ?_, ?_⟩)) hb
  · have := Kd.R_base hR b e.symm
    have := hb2.2.2.1
    omega
  · show idx.idxOf (f b) = t
    rw [hb2.1.2.2]
    obtain ⟨ht, e⟩ := List.getElem?_eq_some_iff.1 hi
    rw [← e]
    exact hnd.idxOf_getElem t ht
set_option maxHeartbeats 16000000 in
set_option maxRecDepth 100000 in
theorem reduced_any (n : Nat) (hn20 : n ≤ 20) (all r : List (List Int)) (A : Option Addr) (cA base : Nat) (w : World) (hS : Kd.S (Kd.slice 3 (Kd.int .i64)) 39 w base (fun _ => True) (.slice A all.length cA) all) (hbase : base ≤ w.heap.size) (h : reducedM n all = some r) :
    Calls Tryz.prog 109 #[.int .i64 (n : Int), .slice A all.length cA] w fun e w' => ∃ v, e = .returned v ∧ Kd.S (Kd.slice 3 (Kd.int .i64)) 39 w' base (fun _ => True) v r ∧ Below w.heap.size w w' := by
  obtain ⟨f, svs, hlen, hrow, _, hper⟩ := S_vals hS
  obtain ⟨Ar, cr, er, hle, hC⟩ := Kd.R_reads hrow
  injection er with er1 er2 er3
  subst er1; subst er3
  clear er2
  have HLEN := Aside0.mk hlen
  have HROW := Aside0.mk hrow
  have HPER := Aside0.mk hper
  have HBASE := Aside0.mk hbase
  have HN := Aside0.mk hn20
  have HCAP := Aside0.mk hle
  have HMAX := Aside0.mk hC.2.1
  unfold reducedM at h
  replace h := Option.bind_eq_some_iff.1 h
  obtain ⟨C0, h0, h⟩ := h
  have H0 := Aside0.mk h0
  have H := Aside0.mk h
  clear hlen hrow hper hbase hn20 h h0 hS hC hle
  go_enter Tryz.func109, Tryz.ntmps109
  go_wp2_with (go_at_call 107; (refine (new_any n HN.out [] none 0 _ (Kd.C_nil _ _) (Nat.le_refl _) C0 H0.out).mono ?_); rintro e w1 ⟨c, la, capL, ρ, d, rfl, hCh, hb1⟩; have HCh := Aside0.mk hCh; have HB1 := Aside0.mk hb1; clear hCh hb1)
  have HRA : Aside0 (RedAt w svs all ρ w1 c capL la C0 d (.slice none 0 0) [] []) := ⟨⟨HCh.out, HB1.out, Kd.R_nil _ _ _ _ _, rfl, List.Pairwise.nil⟩⟩
  clear HCh HB1
  go_loopg [5, 13] all.length (fun kq v5 v13 w' => ∃ (i : Nat) (ρ_ : Nat → Nat) (C_ : Ch) (d_ : Nat → LD) (outs_ : List (List Int)) (idx_ : List Nat) (vo_ : Value), v13 = .int .i64 (i : Int) ∧ vo_ = v5 ∧ Aside0 (RedAt w svs all ρ_ w' c capL la C_ d_ vo_ outs_ idx_) ∧ Aside0 (∀ j ∈ idx_, j < i) ∧ Aside0 (redLoop (all.length : Int) (all.drop i) C_ outs_ = some r) ∧ Aside0 (i + kq = all.length))
  case atStart => exact ⟨0, ρ, C0, d, [], [], _, (by first | rfl | (simp; done)), rfl, HRA, ⟨by simp⟩, H, ⟨by omega⟩⟩
  case round =>
    clear HRA H
    obtain ⟨i, ρ_, C_, d_, outs_, idx_, vo_, rfl, rfl, HR_, HI, HA, HJ⟩ := hrel
    have h := HA.out
    clear HA
    cases gk with
    | zero =>
      have hj : (i < all.length) = False := eq_false (by have := HJ.out; omega)
      rw [List.drop_eq_nil_of_le (by have := HJ.out; omega)] at h
      obtain rfl := Option.some.inj h
      clear h
      go_wp2
      go_ret
      exact ⟨_, rfl, idx_row HLEN.out HR_.out.row HBASE.out HR_.out.outs_ HR_.out.asc (fun j hj => by have := HI.out j hj; have := HJ.out; omega) HR_.out.bel HPER.out, HR_.out.bel⟩
    | succ m1 =>
      have hil : i < all.length := by have := HJ.out; omega
      have hj : (i < all.length) = True := eq_true hil
      have hj2 : ((i : Int) < (all.length : Int)) = True := eq_true (by omega)
      have hj0 : (0 ≤ (i : Int)) = True := eq_true (by omega)
      have HJ2 : Aside0 (i + 1 + m1 = all.length) := ⟨by have := HJ.out; omega⟩
      have HIL := Aside0.mk hil
      rw [List.drop_eq_getElem_cons hil, redLoop] at h
      have ep : all[i] = all.getD i [] := by rw [List.getD_eq_getElem?_getD, List.getElem?_eq_getElem hil]; rfl
      rw [ep] at h
      have hsl : i < svs.length := by rw [HLEN.out]; exact hil
      have es : svs[i] = svs.getD i (none, 0, 0) := by rw [List.getD_eq_getElem?_getD, List.getElem?_eq_getElem hsl]; rfl
      have HPA := Aside0.mk (PermAt.of_R (HPER.out i svs[i] (all.getD i []) (List.getElem?_eq_getElem hsl) (by rw [List.getElem?_eq_getElem hil, ep])))
      rw [es] at HPA
      have HPI := Aside0.mk (PermIn.keep (ρ' := ρ_) HPA.out (Nat.le_refl _) HR_.out.bel (fun b hb => Classical.byContradiction fun hne => by have := HR_.out.ch.rb b hne; omega))
      obtain ⟨ad, gA, hcell0⟩ : ∃ ad, A = some ad ∧ w.cell? (ad.add i) = some (svE (svs.getD i (none, 0, 0))) := by
        obtain ⟨_, _, eR, _, hC⟩ := Kd.R_reads HROW.out
        injection eR with e1 _ _
        subst e1
        obtain ⟨ad, eA, hc⟩ := hC.2.2 (by omega)
        obtain ⟨c1, hcl1, hK1, hcc⟩ := hc i svs[i] (List.getElem?_eq_getElem hsl)
        refine ⟨ad, eA, ?_⟩
        have hK1 : c1 = [svE svs[i]] := hK1
        subst hK1
        have h9 : w.cell? (ad.add (i * 1 + 0)) = some (svE svs[i]) := hcc 0 _ rfl
        rw [Nat.mul_one, Nat.add_zero, es] at h9
        exact h9
      subst gA
      have hcell := (World.cell?_of_block (w := w) (w' := wr) (HR_.out.bel.block _ (World.block_lt_of_cell? w _ hcell0))).trans hcell0
      have wi : wrap64 ((i : Int) + 1) = ((i + 1 : Nat) : Int) := (IntWalk.wrap64_in _ ⟨by omega, by have := HMAX.out; have := HLEN.out; omega⟩).trans (by omega)
      obtain ⟨⟨sa, sn, sc⟩, hsv⟩ : ∃ t : Sv, svs.getD i (none, 0, 0) = t := ⟨_, rfl⟩
      rw [hsv] at hcell HPI HPA
      simp only [svE] at hcell HPI HPA
      have HSV := Aside0.mk hsv
      clear hsv
      replace h := Option.bind_eq_some_iff.1 h
      obtain ⟨b, h1, h⟩ := h
      have A1 := Aside0.mk h1
      clear ep es hsl hcell0 hil h1
      cases b with
      | true =>
            rw [if_pos rfl] at h
            obtain ⟨o, ho'⟩ : ∃ o, belowF C_ 0 = o := ⟨_, rfl⟩
            rw [ho'] at h
            have ho := Aside0.mk ho'
            clear ho'
            by_cases eo : o = (all.length : Int)
            · have eo1 : (o == (all.length : Int)) = true := beq_iff_eq.mpr eo
              rw [if_pos eo] at h
              obtain rfl := Option.some.inj h
              clear h eo
              go_wp2_with (first | (go_at_call 82; (refine (contains_any C_ (all.getD i []) true _ ρ_ w.heap.size c capL la d_ _ HR_.out.ch HPI.out A1.out).mono ?_); rintro e w2 ⟨rfl, hb2⟩; have HR2 := Aside0.mk (HR_.out.below hb2); have HB2 := Aside0.mk hb2; clear hb2) | (go_at_call 79; (refine (order_any HR2.out.ch).mono ?_); rintro e w4 ⟨rfl, hb4⟩; rw [ho.out]; have HR4 := Aside0.mk (HR2.out.below hb4); clear hb4))
              go_ret
              exact ⟨_, rfl, idx_row HLEN.out HR4.out.row HBASE.out HR4.out.outs_ HR4.out.asc (fun j hj => by have := HI.out j hj; have := HIL.out; omega) HR4.out.bel HPER.out, HR4.out.bel⟩
            · have eo1 : (o == (all.length : Int)) = false := beq_eq_false_iff_ne.mpr eo
              rw [if_neg eo] at h
              have H := Aside0.mk h
              clear h eo
              go_wp2_with (first | (go_at_call 82; (refine (contains_any C_ (all.getD i []) true _ ρ_ w.heap.size c capL la d_ _ HR_.out.ch HPI.out A1.out).mono ?_); rintro e w2 ⟨rfl, hb2⟩; have HR2 := Aside0.mk (HR_.out.below hb2); have HB2 := Aside0.mk hb2; clear hb2) | (go_at_call 79; (refine (order_any HR2.out.ch).mono ?_); rintro e w4 ⟨rfl, hb4⟩; rw [ho.out]; have HR4 := Aside0.mk (HR2.out.below hb4); clear hb4))
              go_roundg m1
              case measure => exact Nat.lt_succ_self _
              case rel => exact ⟨i + 1, ρ_, C_, d_, outs_, idx_, vo_, (by first | rfl | (rw [wi]; done) | (simp [wi]; done)), rfl, HR4, ⟨fun j hj => by have := HI.out j hj; omega⟩, H, HJ2⟩
      | false =>
            rw [if_neg (by decide)] at h
            have HOL : Aside0 (outs_.length < 1000) := by
              by_cases e : outs_.length < 1000
              · exact ⟨e⟩
              · rw [if_neg e] at h; cases h
            rw [if_pos HOL.out] at h
            have HOL : Aside0 (idx_.length < 1000) := ⟨by have := HOL.out; rw [HR_.out.outs_] at this; simpa using this⟩
            replace h := Option.bind_eq_some_iff.1 h
            obtain ⟨C2, h2, h⟩ := h
            have A2 := Aside0.mk h2
            clear h2
            obtain ⟨o, ho'⟩ : ∃ o, belowF C2 0 = o := ⟨_, rfl⟩
            rw [ho'] at h
            have ho := Aside0.mk ho'
            clear ho'
            by_cases eo : o = (all.length : Int)
            · have eo1 : (o == (all.length : Int)) = true := beq_iff_eq.mpr eo
              rw [if_pos eo] at h
              obtain rfl := Option.some.inj h
              clear h eo
              go_wp2_with (first | (go_at_call 82; (refine (contains_any C_ (all.getD i []) false _ ρ_ w.heap.size c capL la d_ _ HR_.out.ch HPI.out A1.out).mono ?_); rintro e w2 ⟨rfl, hb2⟩; have HR2 := Aside0.mk (HR_.out.below hb2); have HB2 := Aside0.mk hb2; clear hb2) | ((with_reducible refine gate_builtin (b := .append) (xs := #[.tmp 21, .tmp 23]) rfl ?_); at_builtin; refine Kd.R_append kv (w0 := w) (W := w2) w.heap.size rfl (.tmp 21) (.tmp 23) 22 39 (.slice none 0 0) 24 rfl Tryz.underlying22 perm_info rfl (by decide) (by omega) vo_ (idx_.map fun i => svs.getD i (none, 0, 0)) ((sa, sn, sc) : Sv) [.slice sa sn sc] (fun b => ρ_ b = 2000 ∨ w2.heap.size ≤ b) (fun _ => False) rfl rfl ?aP (fun _ hk => hk.elim) ?aF ?aO ?aB ?aS ?aL ?_; (case aP => rfl); (case aF => exact fun _ h => .inr h); (case aO => exact Kd.R_mono HR2.out.row (fun _ h => .inl h)); (case aB => exact HR2.out.bel); (case aS => exact HR2.out.bel.size); (case aL => have := HOL.out; rw [List.length_map]; omega); intro v3 w3 ho3 hb3 hg3 hat3; rw [show ((sa, sn, sc) : Sv) = svs.getD i (none, 0, 0) from HSV.out.symm] at ho3; obtain ⟨ρ3, R3⟩ := HR2.out.push HI.out ho3 hb3 hg3; have HR3 := Aside0.mk R3; clear ho3 hb3 hg3 hat3 R3) | (go_at_call 135; (refine (add_any w.heap.size c capL la C_ C2 (all.getD i []) w3 ρ3 d_ _ HR3.out.ch HR3.out.bel.size (PermIn.keep HPA.out (Nat.le_refl _) HR3.out.bel (fun b hb => Classical.byContradiction fun hne => by have := HR3.out.ch.rb b hne; omega)) A2.out).mono ?_); rintro e w8 ⟨rfl, ρ8, d8, hC8, hd8, hS8⟩; have HR8 := Aside0.mk (HR3.out.grew hC8 hS8); clear hC8 hd8 hS8) | (go_at_call 79; (refine (order_any HR8.out.ch).mono ?_); rintro e w4 ⟨rfl, hb4⟩; rw [ho.out]; have HR4 := Aside0.mk (HR8.out.below hb4); clear hb4))
              go_ret
              exact ⟨_, rfl, idx_row HLEN.out HR4.out.row HBASE.out HR4.out.outs_ HR4.out.asc (fun j hj => (List.mem_append.1 hj).elim (fun h => Nat.lt_trans (HI.out j h) HIL.out) (fun h => by rw [List.mem_singleton] at h; rw [h]; exact HIL.out)) HR4.out.bel HPER.out, HR4.out.bel⟩
            · have eo1 : (o == (all.length : Int)) = false := beq_eq_false_iff_ne.mpr eo
              rw [if_neg eo] at h
              have H := Aside0.mk h
              clear h eo
              go_wp2_with (first | (go_at_call 82; (refine (contains_any C_ (all.getD i []) false _ ρ_ w.heap.size c capL la d_ _ HR_.out.ch HPI.out A1.out).mono ?_); rintro e w2 ⟨rfl, hb2⟩; have HR2 := Aside0.mk (HR_.out.below hb2); have HB2 := Aside0.mk hb2; clear hb2) | ((with_reducible refine gate_builtin (b := .append) (xs := #[.tmp 21, .tmp 23]) rfl ?_); at_builtin; refine Kd.R_append kv (w0 := w) (W := w2) w.heap.size rfl (.tmp 21) (.tmp 23) 22 39 (.slice none 0 0) 24 rfl Tryz.underlying22 perm_info rfl (by decide) (by omega) vo_ (idx_.map fun i => svs.getD i (none, 0, 0)) ((sa, sn, sc) : Sv) [.slice sa sn sc] (fun b => ρ_ b = 2000 ∨ w2.heap.size ≤ b) (fun _ => False) rfl rfl ?aP (fun _ hk => hk.elim) ?aF ?aO ?aB ?aS ?aL ?_; (case aP => rfl); (case aF => exact fun _ h => .inr h); (case aO => exact Kd.R_mono HR2.out.row (fun _ h => .inl h)); (case aB => exact HR2.out.bel); (case aS => exact HR2.out.bel.size); (case aL => have := HOL.out; rw [List.length_map]; omega); intro v3 w3 ho3 hb3 hg3 hat3; rw [show ((sa, sn, sc) : Sv) = svs.getD i (none, 0, 0) from HSV.out.symm] at ho3; obtain ⟨ρ3, R3⟩ := HR2.out.push HI.out ho3 hb3 hg3; have HR3 := Aside0.mk R3; clear ho3 hb3 hg3 hat3 R3) | (go_at_call 135; (refine (add_any w.heap.size c capL la C_ C2 (all.getD i []) w3 ρ3 d_ _ HR3.out.ch HR3.out.bel.size (PermIn.keep HPA.out (Nat.le_refl _) HR3.out.bel (fun b hb => Classical.byContradiction fun hne => by have := HR3.out.ch.rb b hne; omega)) A2.out).mono ?_); rintro e w8 ⟨rfl, ρ8, d8, hC8, hd8, hS8⟩; have HR8 := Aside0.mk (HR3.out.grew hC8 hS8); clear hC8 hd8 hS8) | (go_at_call 79; (refine (order_any HR8.out.ch).mono ?_); rintro e w4 ⟨rfl, hb4⟩; rw [ho.out]; have HR4 := Aside0.mk (HR8.out.below hb4); clear hb4))
              go_roundg m1
              case measure => exact Nat.lt_succ_self _
              case rel => exact ⟨i + 1, ρ8, C2, d8, _, _, v3, (by first | rfl | (rw [wi]; done) | (simp [wi]; done)), rfl, HR4, ⟨fun j hj => by
                rcases List.mem_append.1 hj with h | h
                · have := HI.out j h; omega
                · rw [List.mem_singleton] at h; omega⟩, H, HJ2⟩
end Go.Proofs.YtmbldnoepjmhhaaGreat.Bs
end
section
/- The functions Order, Contains, elements and group of package permgroup. -/
namespace Go.Proofs.YtmbldnoepjmhhaaGreat.Bs
open Go.RowKit Go.Sort Go.Shelf Go.Proofs.YtmbldnoepjmhhaaGreatW.PrintWords Go.Proofs.YtmbldnoepjmhhaaGreatW.PrintLast Go.Proofs.YtmbldnoepjmhhaaGreatW.PrintMore Go.Proofs.YtmbldnoepjmhhaaGreat.Plain Go.Proofs.YtmbldnoepjmhhaaGreat.PBs
attribute [local go_sem] max2_int min2_int max_two min_two max_three min_three max_four min_four
theorem ChainAt.lower {ρ : Nat → Nat} {w : World} {base base' c capL : Nat} {la : Option Addr} {C : Ch} {d : Nat → LD} (h : ChainAt ρ w base c la capL C d) (hb : base' ≤ base) : ChainAt ρ w base' c la capL C d where
  len := h.len
  small := h.small
  fresh := h.fresh
  rb := fun b hne => Nat.le_trans hb (h.rb b hne)
  rc := h.rc
  hn := h.hn
  hl := h.hl
  hcap := h.hcap
  ls := h.ls
  lv := fun k L hL => by
    have l := h.lv k L hL
    exact { rl := l.rl, rw' := l.rw', ro := l.ro, rg := l.rg, c1 := l.c1, c2 := l.c2, c3 := l.c3, c0 := l.c0, fr := l.fr, wrd := Kd.R_lower l.wrd hb, wlen := l.wlen, wp := l.wp, orb := Kd.R_lower l.orb hb, gen := Kd.R_lower l.gen hb, glen := l.glen, gp := l.gp }
set_option maxHeartbeats 4000000 in
theorem chain_any (n : Nat) (hn20 : n ≤ 20) (gens : List (List Int)) (A : Option Addr) (cap : Nat) (w : World) (hg : Kd.C (Kd.slice 3 (Kd.int .i64)) w A gens.length gens) (hcap : gens.length ≤ cap) (C : Ch) (h : new_ n gens = some C) :
    Calls Tryz.prog 78 #[.agg #[.int .i64 (n : Int), .slice A gens.length cap]] w (New n C w) := by
  have hu := Tryz.underlying24
  have HN := Aside0.mk hn20
  have H := Aside0.mk h
  have HC := Aside0.mk hcap
  have HG := Aside0.mk (Kd.C_below hg (below_alloc (Below.refl w.heap.size w) (.cells #[.int .i64 (n : Int), .slice A gens.length cap] 24)))
  clear hg hn20 h hcap
  go_enter Tryz.func78, Tryz.ntmps78
  go_wp2_with (go_at_call 107; (refine (new_any n HN.out gens A cap _ HG.out HC.out C H.out).mono ?_); rintro e w1 ⟨c, la, capL, ρ, d, rfl, hCh, hb1⟩; have HCh := Aside0.mk hCh; have HB1 := Aside0.mk hb1; clear hCh hb1)
  go_ret
  exact ⟨c, la, capL, ρ, d, rfl, HCh.out.lower (by simp), below_step (below_alloc (Below.refl _ _) _) HB1.out⟩
def permgroup_Order.f (k : Nat) (a0_0 : Int) (l0_1 : List (List Int)) : Option (Int × Int) := (permgroup_Check.f k a0_0 l0_1).bind fun e => if e = 0 then (if 0 ≤ a0_0 ∧ a0_0 ≤ 20 then (new_ a0_0.toNat l0_1).bind fun C => some (belowF C 0, 0) else none) else some (0, e)
theorem permgroup_Order.mono : ∀ a0_0 l0_1 k, LeO (permgroup_Order.f k a0_0 l0_1) (permgroup_Order.f (k + 1) a0_0 l0_1) := fun a0_0 l0_1 k => LeO.bind (permgroup_Check.mono _ _ _) (fun _ => LeO.refl _)
set_option maxHeartbeats 4000000 in
set_option maxRecDepth 100000 in
theorem permgroup_Order.calls (k : Nat) (a0_0 : Int) (A0_1 : Option Addr) (c0_1 : Nat) (l0_1 : List (List Int)) (r1 r2 : Int) (w : World) (hr0_1 : Kd.C (Kd.slice 3 (Kd.int .i64)) w A0_1 l0_1.length l0_1) (hc0_1 : l0_1.length ≤ c0_1) (h : permgroup_Order.f k a0_0 l0_1 = some (r1, r2)) :
    Calls Tryz.prog 35 #[.agg #[.int .i64 a0_0, .slice A0_1 l0_1.length c0_1]] w fun e w' => e = .returned (.tuple #[.int .i64 r1, .int .i64 r2]) ∧ Below w.heap.size w w' := by
  have hu := Tryz.underlying24
  have HC := Aside0.mk hc0_1
  have HG := Aside0.mk (Kd.C_below hr0_1 (below_alloc (Below.refl w.heap.size w) (.cells #[.int .i64 a0_0, .slice A0_1 l0_1.length c0_1] 24)))
  unfold permgroup_Order.f at h
  replace h := Option.bind_eq_some_iff.1 h
  obtain ⟨e, h1, h⟩ := h
  have A1 := Aside0.mk h1
  clear hr0_1 hc0_1 h1
  by_cases e0 : e = 0
  · rw [if_pos e0] at h
    have hr : 0 ≤ a0_0 ∧ a0_0 ≤ 20 := by
      by_cases hr : 0 ≤ a0_0 ∧ a0_0 ≤ 20
      · exact hr
      · rw [if_neg hr] at h; cases h
    rw [if_pos hr] at h
    obtain ⟨n, rfl⟩ : ∃ n : Nat, a0_0 = (n : Int) := ⟨a0_0.toNat, by omega⟩
    rw [Int.toNat_natCast] at h
    replace h := Option.bind_eq_some_iff.1 h
    obtain ⟨C, h2, h⟩ := h
    obtain ⟨rfl, rfl⟩ := Prod.mk.inj (Option.some.inj h)
    have A2 := Aside0.mk h2
    have HN : Aside0 (n ≤ 20) := ⟨by omega⟩
    obtain ⟨o, ho'⟩ : ∃ o, belowF C 0 = o := ⟨_, rfl⟩
    have ho := Aside0.mk ho'
    rw [ho']
    subst e0
    clear h h2 hr ho'
    go_enter Tryz.func35, Tryz.ntmps35
    go_wp2_with (first
      | (go_at_call 83; (refine (permgroup_Check.calls k (n : Int) A0_1 c0_1 l0_1 0 _ HG.out HC.out A1.out).mono ?_); rintro e w1 ⟨rfl, hb1⟩; have HB1 := Aside0.mk (below_step (w := w) (below_alloc (Below.refl _ _) _) hb1); have HG1 := Aside0.mk (Kd.C_below HG.out hb1); have hcx := cell_move (w' := w1) (show (w.alloc (.cells #[.int .i64 (n : Int), .slice A0_1 l0_1.length c0_1] 24)).cell? ⟨w.heap.size, 0, none⟩ = some (.int .i64 (n : Int)) from by rw [World.cell?_alloc_at _ _ _ _ rfl]; rfl) (fun hlt => hb1.block _ hlt); have hcy := cell_move (w' := w1) (show (w.alloc (.cells #[.int .i64 (n : Int), .slice A0_1 l0_1.length c0_1] 24)).cell? ⟨w.heap.size, 1, none⟩ = some (.slice A0_1 l0_1.length c0_1) from by rw [World.cell?_alloc_at _ _ _ _ rfl]; rfl) (fun hlt => hb1.block _ hlt); clear hb1)
      | (go_at_call 78; (refine (chain_any n HN.out l0_1 A0_1 c0_1 _ HG1.out HC.out C A2.out).mono ?_); rintro e w2 ⟨c, la, capL, ρ, d, rfl, hCh, hb2⟩; have HCh := Aside0.mk hCh; have HB2 := Aside0.mk (below_step HB1.out hb2); clear hCh hb2)
      | (go_at_call 79; (refine (order_any HCh.out).mono ?_); rintro e w3 ⟨rfl, hb3⟩; rw [ho.out]; have HB3 := Aside0.mk (below_step HB2.out hb3); clear hb3))
    go_ret2
    exact ⟨rfl, HB3.out⟩
  · rw [if_neg e0] at h
    obtain ⟨rfl, rfl⟩ := Prod.mk.inj (Option.some.inj h)
    have e1 : (e == 0) = false := beq_eq_false_iff_ne.mpr e0
    have e2 : (e != 0) = true := bne_iff_ne.mpr e0
    clear h e0
    go_enter Tryz.func35, Tryz.ntmps35
    go_wp2_with (go_at_call 83; (refine (permgroup_Check.calls k a0_0 A0_1 c0_1 l0_1 e _ HG.out HC.out A1.out).mono ?_); rintro e' w1 ⟨rfl, hb1⟩; have HB1 := Aside0.mk (below_step (w := w) (below_alloc (Below.refl _ _) _) hb1); clear hb1)
    go_ret2
    exact ⟨rfl, HB1.out⟩
theorem arg_permIn {ρ : Nat → Nat} {w w1 w' : World} {base c capL : Nat} {la : Option Addr} {C : Ch} {d : Nat → LD} {v : Value} {p : List Int} (h : PermAt w v p) (hC : ChainAt ρ w' base c la capL C d) (hb : Below w.heap.size w w') (hbase : w.heap.size ≤ base) : PermIn ρ w' v p :=
  PermIn.keep h (Nat.le_refl _) hb (fun b hlt => Classical.byContradiction fun hne => by have := hC.rb b hne; omega)
def permgroup_elements.f (a0 : Int) (l1 : List (List Int)) : Option (List (List Int) × Int) := if 0 ≤ a0 ∧ a0 ≤ 20 then (new_ a0.toNat l1).bind fun C => if 5040 < belowF C 0 then some ([], 5) else (elements C).bind fun E => some (E, 0) else none
set_option maxHeartbeats 4000000 in
set_option maxRecDepth 100000 in
theorem permgroup_elements.calls (a0 : Int) (A1 : Option Addr) (c1 : Nat) (l1 : List (List Int)) (r1 : List (List Int)) (r2 : Int) (w : World) (hr1 : Kd.C (Kd.slice 3 (Kd.int .i64)) w A1 l1.length l1) (hc1 : l1.length ≤ c1) (h : permgroup_elements.f a0 l1 = some (r1, r2)) :
    Calls Tryz.prog 68 #[.int .i64 a0, .slice A1 l1.length c1] w fun e w' => ∃ v0_ : Value, e = .returned (.tuple #[v0_, .int .i64 r2]) ∧ Kd.S (Kd.slice 3 (Kd.int .i64)) 39 w' w.heap.size (fun _ => True) v0_ r1 ∧ Below w.heap.size w w' := by
  have HC := Aside0.mk hc1
  have HG := Aside0.mk hr1
  unfold permgroup_elements.f at h
  have hr : 0 ≤ a0 ∧ a0 ≤ 20 := by
    by_cases hr : 0 ≤ a0 ∧ a0 ≤ 20
    · exact hr
    · rw [if_neg hr] at h; cases h
  rw [if_pos hr] at h
  obtain ⟨n, rfl⟩ : ∃ n : Nat, a0 = (n : Int) := ⟨a0.toNat, by omega⟩
  rw [Int.toNat_natCast] at h
  replace h := Option.bind_eq_some_iff.1 h
  obtain ⟨C, h2, h⟩ := h
  have A2 := Aside0.mk h2
  have HN : Aside0 (n ≤ 20) := ⟨by omega⟩
  obtain ⟨o, ho'⟩ : ∃ o, belowF C 0 = o := ⟨_, rfl⟩
  have ho := Aside0.mk ho'
  rw [ho'] at h
  clear hr1 hc1 hr h2 ho'
  by_cases e0 : 5040 < o
  · rw [if_pos e0] at h
    obtain ⟨rfl, rfl⟩ := Prod.mk.inj (Option.some.inj h)
    have e1 : decide (5040 < o) = true := decide_eq_true e0
    clear h e0
    go_enter Tryz.func68, Tryz.ntmps68
    go_wp2_with (first
      | (go_at_call 107; (refine (new_any n HN.out l1 A1 c1 _ HG.out HC.out C A2.out).mono ?_); rintro e w1 ⟨c, la, capL, ρ, d, rfl, hCh, hb1⟩; have HCh := Aside0.mk hCh; have HB1 := Aside0.mk hb1; clear hCh hb1)
      | (go_at_call 79; (refine (order_any HCh.out).mono ?_); rintro e w3 ⟨rfl, hb3⟩; rw [ho.out]; have HB3 := Aside0.mk (below_step HB1.out hb3); clear hb3))
    go_ret2
    exact ⟨_, rfl, Kd.S_nil _ _ _ _ _, HB3.out⟩
  · rw [if_neg e0] at h
    replace h := Option.bind_eq_some_iff.1 h
    obtain ⟨E, h3, h⟩ := h
    obtain ⟨rfl, rfl⟩ := Prod.mk.inj (Option.some.inj h)
    have A3 := Aside0.mk h3
    have e1 : decide (5040 < o) = false := decide_eq_false e0
    clear h e0 h3
    go_enter Tryz.func68, Tryz.ntmps68
    go_wp2_with (first
      | (go_at_call 107; (refine (new_any n HN.out l1 A1 c1 _ HG.out HC.out C A2.out).mono ?_); rintro e w1 ⟨c, la, capL, ρ, d, rfl, hCh, hb1⟩; have HCh := Aside0.mk hCh; have HB1 := Aside0.mk hb1; clear hCh hb1)
      | (go_at_call 79; (refine (order_any HCh.out).mono ?_); rintro e w3 ⟨rfl, hb3⟩; rw [ho.out]; have HB3 := Aside0.mk (below_step HB1.out hb3); have HCh3 := Aside0.mk (HCh.out.below hb3); clear hb3)
      | (go_at_call 80; (refine (elements_any HCh3.out A3.out).mono ?_); rintro e w4 ⟨v4, rfl, hS4, hb4⟩; have HS4 := Aside0.mk (Kd.S_lower hS4 HB3.out.size); have HB4 := Aside0.mk (below_step HB3.out hb4); clear hS4 hb4))
    go_ret2
    exact ⟨_, rfl, HS4.out, HB4.out⟩
set_option maxHeartbeats 4000000 in
set_option maxRecDepth 100000 in
theorem reducedG_any (n : Nat) (hn20 : n ≤ 20) (all r : List (List Int)) (A : Option Addr) (cA base : Nat) (w : World) (hS : Kd.S (Kd.slice 3 (Kd.int .i64)) 39 w base (fun _ => True) (.slice A all.length cA) all) (hbase : base ≤ w.heap.size) (h : reducedM n all = some r) :
    Calls Tryz.prog 69 #[.int .i64 (n : Int), .slice A all.length cA] w fun e w' => ∃ v, e = .returned (.agg #[.int .i64 (n : Int), v]) ∧ Kd.S (Kd.slice 3 (Kd.int .i64)) 39 w' base (fun _ => True) v r ∧ Below w.heap.size w w' := by
  have hu := Tryz.underlying24
  have HN := Aside0.mk hn20
  have H := Aside0.mk h
  have HS := Aside0.mk (Kd.S_alloc hS (.cells #[.int .i64 0, .slice none 0 0] 24))
  have HBASE := Aside0.mk hbase
  clear hn20 h hS hbase
  go_enter Tryz.func69, Tryz.ntmps69
  go_wp2_with (go_at_call 109; (refine (reduced_any n HN.out all r A cA base _ HS.out (Nat.le_trans HBASE.out (by simp)) H.out).mono ?_); rintro e w1 ⟨v1, rfl, hS1, hb1⟩; have HS1 := Aside0.mk hS1; have HB1 := Aside0.mk hb1; have hc0 := cell_move (w' := w1) (show (w.alloc (.cells #[.int .i64 0, .slice none 0 0] 24)).cell? ⟨w.heap.size, 0, none⟩ = some (.int .i64 0) from by rw [World.cell?_alloc_at _ _ _ _ rfl]; rfl) (fun hlt => hb1.block _ hlt); have hc1 := cell_move (w' := w1) (show (w.alloc (.cells #[.int .i64 0, .slice none 0 0] 24)).cell? ⟨w.heap.size, 1, none⟩ = some (.slice none 0 0) from by rw [World.cell?_alloc_at _ _ _ _ rfl]; rfl) (fun hlt => hb1.block _ hlt); have hf0 := (World.frozen?_of_block (w := w.alloc (.cells #[.int .i64 0, .slice none 0 0] 24)) (a := ⟨w.heap.size, 0, none⟩) (hb1.block _ (by simp))).trans (World.frozen?_alloc_at _ _ _ _ rfl); have hf1 := (World.frozen?_of_block (w := w.alloc (.cells #[.int .i64 0, .slice none 0 0] 24)) (a := ⟨w.heap.size, 1, none⟩) (hb1.block _ (by simp))).trans (World.frozen?_alloc_at _ _ _ _ rfl); obtain ⟨A1, c1, e1⟩ := Kd.R_slice (Kd.S_R hS1); subst e1; clear hS1 hb1)
  have hk1 : w1.heap[w.heap.size]? = some (.cells #[.int .i64 0, .slice none 0 0] 24 (0, 0)) := (HB1.out.block _ (by simp)).trans (blk_new _ _)
  have hk2 := blk_put hk1 0 (.int .i64 (n : Int)) rfl
  have hk3 := blk_put hk2 1 (.slice A1 r.length c1) rfl
  have hty : ∀ q, q ∈ 39 :: (Kd.slice 3 (Kd.int .i64)).E → q ≠ 24 := by decide
  have hS2 := Kd.S_set HS1.out hk1 hty 0 (.int .i64 (n : Int))
  have hS3 := Kd.S_set hS2 hk2 hty 1 (.slice A1 r.length c1)
  refine bodyPost_ret (results_cell_row rfl _ _ w.heap.size 24 #[.int .i64 (n : Int), .slice A1 r.length c1] (0, 0) _ rfl hk3 Tryz.underlying24 rfl (by kernel_rfl)) rfl ?_
  exact ⟨_, rfl, hS3, ((below_step (below_alloc (Below.refl _ _) _) HB1.out).setCell (Nat.le_refl _) _).setCell (Nat.le_refl _) _⟩
def permgroup_group.f (a0 : Int) (l1 : List (List Int)) : Option (Int × List (List Int) × Int) := (permgroup_elements.f a0 l1).bind fun t => if t.2 = 0 then (reducedM a0.toNat t.1).bind fun r => some (a0, r, 0) else some (0, [], t.2)
set_option maxHeartbeats 4000000 in
set_option maxRecDepth 100000 in
theorem permgroup_group.calls (a0 : Int) (A1 : Option Addr) (c1 : Nat) (l1 : List (List Int)) (r1 : Int) (r2 : List (List Int)) (r3 : Int) (w : World) (hr1 : Kd.C (Kd.slice 3 (Kd.int .i64)) w A1 l1.length l1) (hc1 : l1.length ≤ c1) (h : permgroup_group.f a0 l1 = some (r1, r2, r3)) :
    Calls Tryz.prog 66 #[.int .i64 a0, .slice A1 l1.length c1] w fun e w' => ∃ v1_ : Value, e = .returned (.tuple #[.agg #[.int .i64 r1, v1_], .int .i64 r3]) ∧ Kd.S (Kd.slice 3 (Kd.int .i64)) 39 w' w.heap.size (fun _ => True) v1_ r2 ∧ Below w.heap.size w w' := by
  have hu := Tryz.underlying24
  have HC := Aside0.mk hc1
  have HG := Aside0.mk (Kd.C_below hr1 (below_alloc (Below.refl w.heap.size w) (.cells #[.int .i64 0, .slice none 0 0] 24)))
  unfold permgroup_group.f at h
  replace h := Option.bind_eq_some_iff.1 h
  obtain ⟨⟨all, e⟩, h1, h⟩ := h
  have A1' := Aside0.mk h1
  have HA0 : Aside0 (0 ≤ a0 ∧ a0 ≤ 20) := by
    unfold permgroup_elements.f at h1
    by_cases hr : 0 ≤ a0 ∧ a0 ≤ 20
    · exact ⟨hr⟩
    · rw [if_neg hr] at h1; cases h1
  obtain ⟨n, rfl⟩ : ∃ n : Nat, a0 = (n : Int) := ⟨a0.toNat, by have := HA0.out; omega⟩
  have HN : Aside0 (n ≤ 20) := ⟨by have := HA0.out; omega⟩
  clear hr1 hc1 h1 HA0
  have hty : ∀ q, q ∈ 39 :: (Kd.slice 3 (Kd.int .i64)).E → q ≠ 24 := by decide
  have HTY := Aside0.mk hty
  clear hty
  by_cases e0 : e = 0
  · simp only [if_pos e0] at h
    replace h := Option.bind_eq_some_iff.1 h
    obtain ⟨r, h2, h⟩ := h
    rw [Int.toNat_natCast] at h2
    obtain ⟨rfl, h3⟩ := Prod.mk.inj (Option.some.inj h)
    obtain ⟨rfl, rfl⟩ := Prod.mk.inj h3
    have A2 := Aside0.mk h2
    subst e0
    clear h h2 h3
    go_enter Tryz.func66, Tryz.ntmps66
    go_wp2_with (first
      | (go_at_call 68; (refine (permgroup_elements.calls (n : Int) A1 c1 l1 all 0 _ HG.out HC.out A1'.out).mono ?_); rintro e w1 ⟨v1, rfl, hS1, hb1⟩; have HS1 := Aside0.mk hS1; have HB1 := Aside0.mk hb1; obtain ⟨B1, d1, e1⟩ := Kd.R_slice (Kd.S_R hS1); subst e1; clear hS1 hb1)
      | (go_at_call 69; (refine (reducedG_any n HN.out all r B1 d1 _ _ HS1.out HB1.out.size A2.out).mono ?_); rintro e w2 ⟨v2, rfl, hS2, hb2⟩; have HS2 := Aside0.mk hS2; have HB2 := Aside0.mk (below_step HB1.out hb2); obtain ⟨B2, d2, e2⟩ := Kd.R_slice (Kd.S_R hS2); subst e2; have hk := Aside0.mk ((HB2.out.block _ (by simp)).trans (blk_new w (.cells #[.int .i64 0, .slice none 0 0] 24))); have hc0 := (blk_cell hk.out 0); have hc1 := (blk_cell hk.out 1); have hf0 := (blk_frozen hk.out 0); have hf1 := (blk_frozen hk.out 1); clear hS2 hb2))
    have hk2 := blk_put hk.out 0 (.int .i64 (n : Int)) rfl
    have hk3 := blk_put hk2 1 (.slice B2 r.length d2) rfl
    have hS2 := Kd.S_set HS2.out hk.out HTY.out 0 (.int .i64 (n : Int))
    have hS3 := Kd.S_set hS2 hk2 HTY.out 1 (.slice B2 r.length d2)
    refine bodyPost_ret (results_ct rfl _ _ w.heap.size 24 #[.int .i64 (n : Int), .slice B2 r.length d2] (0, 0) _ rfl hk3 Tryz.underlying24 rfl (by kernel_rfl)) rfl ?_
    exact ⟨_, rfl, Kd.S_lower hS3 (by simp), ((below_step (below_alloc (Below.refl _ _) _) HB2.out).setCell (Nat.le_refl _) _).setCell (Nat.le_refl _) _⟩
  · simp only [if_neg e0] at h
    obtain ⟨rfl, h3⟩ := Prod.mk.inj (Option.some.inj h)
    obtain ⟨rfl, rfl⟩ := Prod.mk.inj h3
    have e1 : (e == 0) = false := beq_eq_false_iff_ne.mpr e0
    have e2 : (e != 0) = true := bne_iff_ne.mpr e0
    clear h e0 h3
    go_enter Tryz.func66, Tryz.ntmps66
    go_wp2_with (go_at_call 68; (refine (permgroup_elements.calls (n : Int) A1 c1 l1 all e _ HG.out HC.out A1'.out).mono ?_); rintro e' w1 ⟨v1, rfl, hS1, hb1⟩; have HB1 := Aside0.mk hb1; obtain ⟨B1, d1, e1⟩ := Kd.R_slice (Kd.S_R hS1); subst e1; have hk := Aside0.mk ((HB1.out.block _ (by simp)).trans (blk_new w (.cells #[.int .i64 0, .slice none 0 0] 24))); have hc0 := (blk_cell hk.out 0); have hc1 := (blk_cell hk.out 1); have hf0 := (blk_frozen hk.out 0); have hf1 := (blk_frozen hk.out 1); clear hS1 hb1)
    have hk2 := blk_put hk.out 0 (.int .i64 0) rfl
    have hk3 := blk_put hk2 1 (.slice none 0 0) rfl
    refine bodyPost_ret (results_ct rfl _ _ w.heap.size 24 #[.int .i64 0, .slice none 0 0] (0, 0) _ rfl hk3 Tryz.underlying24 rfl (by kernel_rfl)) rfl ?_
    exact ⟨_, rfl, Kd.S_nil _ _ _ _ _, ((below_step (below_alloc (Below.refl _ _) _) HB1.out).setCell (Nat.le_refl _) _).setCell (Nat.le_refl _) _⟩
end Go.Proofs.YtmbldnoepjmhhaaGreat.Bs
end
section
/- The function Index of package permgroup. -/
namespace Go.Proofs.YtmbldnoepjmhhaaGreat.Bs
open Go.RowKit Go.Sort Go.Shelf Go.Proofs.YtmbldnoepjmhhaaGreatW.PrintWords Go.Proofs.YtmbldnoepjmhhaaGreatW.PrintLast Go.Proofs.YtmbldnoepjmhhaaGreatW.PrintMore Go.Proofs.YtmbldnoepjmhhaaGreat.Plain Go.Proofs.YtmbldnoepjmhhaaGreat.PBs
attribute [local go_sem] max2_int min2_int max_two min_two max_three min_three max_four min_four
def permgroup_Index.f (k : Nat) (a0_0 : Int) (l0_1 : List (List Int)) (l1 : List Int) : Option (Int × Int) := (permgroup_with.f k a0_0 l0_1 l1).bind fun e => if e = 0 then (if 0 ≤ a0_0 ∧ a0_0 ≤ 20 then (new_ a0_0.toNat l0_1).bind fun C => (indexM C l1).bind fun b => if b.2 = true then some (b.1, 0) else some (0, 28) else none) else some (0, e)
theorem permgroup_Index.mono : ∀ a0_0 l0_1 l1 k, LeO (permgroup_Index.f k a0_0 l0_1 l1) (permgroup_Index.f (k + 1) a0_0 l0_1 l1) := fun a0_0 l0_1 l1 k => LeO.bind (permgroup_with.mono _ _ _ _) (fun _ => LeO.refl _)
set_option maxHeartbeats 4000000 in
set_option maxRecDepth 100000 in
theorem permgroup_Index.calls (k : Nat) (a0_0 : Int) (A0_1 : Option Addr) (c0_1 : Nat) (l0_1 : List (List Int)) (A1 : Option Addr) (c1 : Nat) (l1 : List Int) (r1 : Int) (r2 : Int) (w : World) (hr0_1 : Kd.C (Kd.slice 3 (Kd.int .i64)) w A0_1 l0_1.length l0_1) (hc0_1 : l0_1.length ≤ c0_1) (hr1 : Kd.C (Kd.int .i64) w A1 l1.length l1) (hc1 : l1.length ≤ c1) (h : permgroup_Index.f k a0_0 l0_1 l1 = some (r1, r2)) :
    Calls Tryz.prog 63 #[.agg #[.int .i64 a0_0, .slice A0_1 l0_1.length c0_1], .slice A1 l1.length c1] w fun e w' => e = .returned (.tuple #[.int .i64 r1, .int .i64 r2]) ∧ Below w.heap.size w w' := by
  have hu := Tryz.underlying24
  have HC := Aside0.mk hc0_1
  have HC2 := Aside0.mk hc1
  have HG := Aside0.mk (Kd.C_below hr0_1 (below_alloc (Below.refl w.heap.size w) (.cells #[.int .i64 a0_0, .slice A0_1 l0_1.length c0_1] 24)))
  have HG2 := Aside0.mk (Kd.C_below hr1 (below_alloc (Below.refl w.heap.size w) (.cells #[.int .i64 a0_0, .slice A0_1 l0_1.length c0_1] 24)))
  have HP0 : Aside0 (PermAt w (.slice A1 l1.length c1) l1) := ⟨⟨A1, c1, rfl, hc1, hr1⟩⟩
  unfold permgroup_Index.f at h
  replace h := Option.bind_eq_some_iff.1 h
  obtain ⟨e, h1, h⟩ := h
  have A1' := Aside0.mk h1
  clear hr0_1 hc0_1 h1 hr1 hc1
  by_cases e0 : e = 0
  · rw [if_pos e0] at h
    have hr : 0 ≤ a0_0 ∧ a0_0 ≤ 20 := by
      by_cases hr : 0 ≤ a0_0 ∧ a0_0 ≤ 20
      · exact hr
      · rw [if_neg hr] at h; cases h
    rw [if_pos hr] at h
    obtain ⟨n, rfl⟩ : ∃ n : Nat, a0_0 = (n : Int) := ⟨a0_0.toNat, by omega⟩
    rw [Int.toNat_natCast] at h
    replace h := Option.bind_eq_some_iff.1 h
    obtain ⟨C, h2, h⟩ := h
    have A2 := Aside0.mk h2
    have HN : Aside0 (n ≤ 20) := ⟨by omega⟩
    replace h := Option.bind_eq_some_iff.1 h
    obtain ⟨⟨b1, b2⟩, h3, h⟩ := h
    have A3 := Aside0.mk h3
    subst e0
    clear h2 hr h3
    by_cases eb : b2 = true
    · simp only [if_pos eb] at h
      obtain ⟨rfl, rfl⟩ := Prod.mk.inj (Option.some.inj h)
      subst eb
      clear h
      go_enter Tryz.func63, Tryz.ntmps63
      go_wp2_with (first
        | (go_at_call 99; (refine (permgroup_with.calls k (n : Int) A0_1 c0_1 l0_1 A1 c1 l1 0 _ HG.out HC.out HG2.out HC2.out A1'.out).mono ?_); rintro e' w1 ⟨rfl, hb1⟩; have HB1 := Aside0.mk (below_step (w := w) (below_alloc (Below.refl _ _) _) hb1); have HG1 := Aside0.mk (Kd.C_below HG.out hb1); have hcx := cell_move (w' := w1) (show (w.alloc (.cells #[.int .i64 (n : Int), .slice A0_1 l0_1.length c0_1] 24)).cell? ⟨w.heap.size, 0, none⟩ = some (.int .i64 (n : Int)) from by rw [World.cell?_alloc_at _ _ _ _ rfl]; rfl) (fun hlt => hb1.block _ hlt); have hcy := cell_move (w' := w1) (show (w.alloc (.cells #[.int .i64 (n : Int), .slice A0_1 l0_1.length c0_1] 24)).cell? ⟨w.heap.size, 1, none⟩ = some (.slice A0_1 l0_1.length c0_1) from by rw [World.cell?_alloc_at _ _ _ _ rfl]; rfl) (fun hlt => hb1.block _ hlt); clear hb1)
        | (go_at_call 78; (refine (chain_any n HN.out l0_1 A0_1 c0_1 _ HG1.out HC.out C A2.out).mono ?_); rintro e w2 ⟨c, la, capL, ρ, d, rfl, hCh, hb2⟩; have HCh := Aside0.mk hCh; have HB2 := Aside0.mk (below_step HB1.out hb2); clear hCh hb2)
        | (go_at_call 100; (refine (index_any HCh.out (PermAt.below HP0.out HB2.out) A3.out).mono ?_); rintro e w3 ⟨rfl, hb3⟩; have HB3 := Aside0.mk (below_step HB2.out hb3); clear hb3))
      go_ret2
      exact ⟨rfl, HB3.out⟩
    · simp only [if_neg eb] at h
      obtain ⟨rfl, rfl⟩ := Prod.mk.inj (Option.some.inj h)
      have eb2 : b2 = false := by cases b2 <;> simp_all
      subst eb2
      clear h eb
      go_enter Tryz.func63, Tryz.ntmps63
      go_wp2_with (first
        | (go_at_call 99; (refine (permgroup_with.calls k (n : Int) A0_1 c0_1 l0_1 A1 c1 l1 0 _ HG.out HC.out HG2.out HC2.out A1'.out).mono ?_); rintro e' w1 ⟨rfl, hb1⟩; have HB1 := Aside0.mk (below_step (w := w) (below_alloc (Below.refl _ _) _) hb1); have HG1 := Aside0.mk (Kd.C_below HG.out hb1); have hcx := cell_move (w' := w1) (show (w.alloc (.cells #[.int .i64 (n : Int), .slice A0_1 l0_1.length c0_1] 24)).cell? ⟨w.heap.size, 0, none⟩ = some (.int .i64 (n : Int)) from by rw [World.cell?_alloc_at _ _ _ _ rfl]; rfl) (fun hlt => hb1.block _ hlt); have hcy := cell_move (w' := w1) (show (w.alloc (.cells #[.int .i64 (n : Int), .slice A0_1 l0_1.length c0_1] 24)).cell? ⟨w.heap.size, 1, none⟩ = some (.slice A0_1 l0_1.length c0_1) from by rw [World.cell?_alloc_at _ _ _ _ rfl]; rfl) (fun hlt => hb1.block _ hlt); clear hb1)
        | (go_at_call 78; (refine (chain_any n HN.out l0_1 A0_1 c0_1 _ HG1.out HC.out C A2.out).mono ?_); rintro e w2 ⟨c, la, capL, ρ, d, rfl, hCh, hb2⟩; have HCh := Aside0.mk hCh; have HB2 := Aside0.mk (below_step HB1.out hb2); clear hCh hb2)
        | (go_at_call 100; (refine (index_any HCh.out (PermAt.below HP0.out HB2.out) A3.out).mono ?_); rintro e w3 ⟨rfl, hb3⟩; have HB3 := Aside0.mk (below_step HB2.out hb3); clear hb3))
      go_ret2
      exact ⟨rfl, HB3.out⟩
  · rw [if_neg e0] at h
    obtain ⟨rfl, rfl⟩ := Prod.mk.inj (Option.some.inj h)
    have e1 : (e == 0) = false := beq_eq_false_iff_ne.mpr e0
    have e2 : (e != 0) = true := bne_iff_ne.mpr e0
    clear h e0
    go_enter Tryz.func63, Tryz.ntmps63
    go_wp2_with (go_at_call 99; (refine (permgroup_with.calls k a0_0 A0_1 c0_1 l0_1 A1 c1 l1 e _ HG.out HC.out HG2.out HC2.out A1'.out).mono ?_); rintro e' w1 ⟨rfl, hb1⟩; have HB1 := Aside0.mk (below_step (w := w) (below_alloc (Below.refl _ _) _) hb1); have HG1 := Aside0.mk (Kd.C_below HG.out hb1); clear hb1)
    go_ret2
    exact ⟨rfl, HB1.out⟩
end Go.Proofs.YtmbldnoepjmhhaaGreat.Bs
end
section
/- The walks of slices.Grow, slices.Concat (two rows), and permgroup.Join. -/
namespace Go.Proofs.YtmbldnoepjmhhaaGreat.Bs
open Go.RowKit Go.Proofs.YtmbldnoepjmhhaaGreatW.PrintWords Go.Proofs.YtmbldnoepjmhhaaGreatW.PrintLast Go.Proofs.YtmbldnoepjmhhaaGreatW.PrintMore Go.Proofs.YtmbldnoepjmhhaaGreat.Plain Go.Proofs.YtmbldnoepjmhhaaGreat.PBs
theorem C_vals {w : World} {A : Option Addr} {l : List (List Int)} (h : Kd.C (Kd.slice 3 (Kd.int .i64)) w A l.length l) : ∃ svs : List Sv, svs.length = l.length ∧ Kd.C kv w A svs.length svs ∧ ∀ (j : Nat) (v : Sv) (p : List Int), svs[j]? = some v → l[j]? = some p → PermAt w (svE v) p := by
  obtain ⟨_, h2, h3⟩ := h
  have key : ∀ i, i < l.length → ∃ sv : Sv, (∀ ad, A = some ad → w.cell? (ad.add i) = some (svE sv)) ∧ ∀ p, l[i]? = some p → PermAt w (svE sv) p := fun i hi => by
    obtain ⟨ad, eA, hc⟩ := h3 (by omega)
    obtain ⟨c, hs, ⟨A', c', e', hle, hC'⟩, hcell⟩ := hc i l[i] (List.getElem?_eq_getElem hi)
    refine ⟨(A', l[i].length, c'), fun ad' e => ?_, fun p hp => ?_⟩
    · rw [eA] at e
      obtain rfl := Option.some.inj e
      have := hcell 0 (svE (A', l[i].length, c')) (by rw [e']; rfl)
      rwa [show (Kd.slice 3 (Kd.int .i64)).sz = 1 from rfl, Nat.mul_one, Nat.add_zero] at this
    · rw [List.getElem?_eq_getElem hi] at hp
      obtain rfl := Option.some.inj hp
      exact ⟨A', c', rfl, hle, hC'⟩
  let svs : List Sv := (List.range l.length).map fun i => if hi : i < l.length then (key i hi).choose else (none, 0, 0)
  have hl : svs.length = l.length := by simp [svs]
  have hat : ∀ i (hi : i < l.length), svs[i]? = some (key i hi).choose := fun i hi => by
    simp only [svs]
    rw [List.getElem?_map, List.getElem?_range hi, Option.map_some, dif_pos hi]
  refine ⟨svs, hl, ⟨rfl, by omega, fun h0 => ?_⟩, fun j v p hv hp => ?_⟩
  · obtain ⟨ad, eA, _⟩ := h3 (by omega)
    refine ⟨ad, eA, fun j p hj => ⟨[svE p], rfl, rfl, fun i u hu => ?_⟩⟩
    have hjl : j < l.length := by rw [← hl]; exact (List.getElem?_eq_some_iff.1 hj).1
    rw [hat j hjl] at hj
    obtain rfl := Option.some.inj hj
    rcases i with _ | i
    · simp only [List.getElem?_cons_zero, Option.some.injEq] at hu
      subst hu
      have := (key j hjl).choose_spec.1 ad eA
      rw [show kv.sz = 1 from rfl, Nat.mul_one, Nat.add_zero]
      exact this
    · simp at hu
  · have hjl : j < l.length := (List.getElem?_eq_some_iff.1 hp).1
    rw [hat j hjl] at hv
    obtain rfl := Option.some.inj hv
    exact (key j hjl).choose_spec.2 p hp
set_option maxHeartbeats 4000000 in
set_option maxRecDepth 100000 in
theorem grow_any (n : Nat) (hn : n ≤ 1000) (w : World) :
    Calls Tryz.prog 113 #[.slice none 0 0, .int .i64 (n : Int)] w fun e w' => ∃ v, e = .returned v ∧ Kd.R kv 39 w' w.heap.size (fun b => w.heap.size ≤ b) v [] ∧ Below w.heap.size w w' := by
  have HN := Aside0.mk hn
  have hn0 : decide ((n : Int) < 0) = false := decide_eq_false (by omega)
  have wn : IntKind.i64.wrap ((n : Int) - 0) = (n : Int) := (IntWalk.i64_in _ (by omega)).trans (by omega)
  have wn2 : wrap64 ((n : Int) - 0) = (n : Int) := (IntWalk.wrap64_in _ ⟨by omega, by omega⟩).trans (by omega)
  have wn3 : wrap64 (n : Int) = (n : Int) := IntWalk.wrap64_in _ ⟨by omega, by omega⟩
  have HO : Aside0 (Kd.R kv 39 w w.heap.size (fun b => w.heap.size ≤ b) (.slice none 0 0) []) := ⟨Kd.R_nil _ _ _ _ _⟩
  obtain ⟨i0, hi, hzz⟩ := Option.map_eq_some_iff.1 perm_infoG
  simp only [Prod.mk.injEq] at hzz
  clear hn
  by_cases h0 : n = 0
  · subst h0
    go_enter Tryz.func113, Tryz.ntmps113
    go_wp2
    go_ret
    exact ⟨_, rfl, HO.out, Below.refl _ _⟩
  · have hp : decide (0 < (n : Int)) = true := decide_eq_true (by omega)
    have hp2 : decide (0 < n) = true := decide_eq_true (by omega)
    have hp3 : (0 < n) = True := eq_true (by omega)
    have hcut0 := cut_to (P := Tryz.prog) 22 39 .i64 Tryz.underlying22 hi none 0 0 0 (by omega) (by omega) (by omega)
    go_enter Tryz.func113, Tryz.ntmps113
    go_wp2_with ((with_reducible refine gate_builtin (b := .append) (xs := #[.tmp 20, .tmp 21]) rfl ?_); at_builtin; refine Kd.R_append_zeros kv (w0 := w) (W := w) w.heap.size rfl (.tmp 20) (.tmp 21) 22 3 39 (.slice none 0 0) 24 rfl Tryz.underlying22 Tryz.underlying3 perm_infoG rfl (by decide) (by omega) (.slice none 0 0) [] (none, 0, 0) (kx := .i64) (wrap64 (n : Int)) (fun b => w.heap.size ≤ b) rfl rfl ?aZ (fun _ h => h) HO.out ?a0 (Below.refl _ _) (Nat.le_refl _) ?aL ?_; (case aZ => rfl); (case a0 => rw [wn3]; exact Int.natCast_nonneg _); (case aL => rw [wn3]; have := HN.out; simp; omega); intro v1 w1 ho hb hg hat; obtain ⟨ls, hls⟩ : ∃ ls : List Sv, [] ++ List.replicate (wrap64 (n : Int)).toNat (none, 0, 0) = ls := ⟨_, rfl⟩; rw [hls] at ho; clear hls; obtain ⟨A1, c1, e1⟩ := Kd.R_slice ho; subst e1; have hcut1 := cut_to (P := Tryz.prog) 22 39 .i64 Tryz.underlying22 hi A1 ls.length c1 0 (by omega) (by omega) (Kd.R_reads' ho).2.1; have HT := Aside0.mk (Kd.R_take ho (m := 0) (Nat.zero_le _)); have HB := Aside0.mk hb; clear ho hb hg hat)
    go_ret
    exact ⟨_, rfl, by simpa using HT.out, HB.out⟩
theorem kv_C_below {w w' : World} {A : Option Addr} {svs : List Sv} (h : Kd.C kv w A svs.length svs) (hb : Below w.heap.size w w') : Kd.C kv w' A svs.length svs := Kd.C_below h hb
def two_len (la lb : Nat) : Nat → Nat
  | 0 => 0
  | 1 => la
  | _ => la + lb
def two_svs (s1 s2 : List Sv) : Nat → List Sv
  | 0 => []
  | 1 => s1
  | _ => s1 ++ s2
set_option maxHeartbeats 8000000 in
set_option maxRecDepth 100000 in
theorem concat_kv (w : World) (bx : Nat) (A : Option Addr) (ca : Nat) (s1 : List Sv) (B : Option Addr) (cb : Nat) (s2 : List Sv) (hx0 : w.cell? ⟨bx, 0, none⟩ = some (.slice A s1.length ca)) (hx1 : w.cell? ⟨bx, 1, none⟩ = some (.slice B s2.length cb)) (c1 : Kd.C kv w A s1.length s1) (c2 : Kd.C kv w B s2.length s2) (hlen : s1.length + s2.length ≤ 1000) :
    Calls Tryz.prog 76 #[.slice (some ⟨bx, 0, none⟩) 2 2] w fun e w' => ∃ v, e = .returned v ∧ Kd.R kv 39 w' w.heap.size (fun b => w.heap.size ≤ b) v (s1 ++ s2) ∧ Below w.heap.size w w' := by
  have HX0 := Aside0.mk hx0
  have HX1 := Aside0.mk hx1
  have HC1 := Aside0.mk c1
  have HC2 := Aside0.mk c2
  have HLN := Aside0.mk hlen
  obtain ⟨sv, hsv⟩ : ∃ sv, s1 ++ s2 = sv := ⟨_, rfl⟩
  rw [hsv]
  have HSV := Aside0.mk hsv
  clear hsv
  obtain ⟨la, hla⟩ : ∃ la, s1.length = la := ⟨_, rfl⟩
  obtain ⟨lb, hlb⟩ : ∃ lb, s2.length = lb := ⟨_, rfl⟩
  rw [hla] at HX0 HLN
  rw [hlb] at HX1 HLN
  have HL1 := Aside0.mk hla
  have HL2 := Aside0.mk hlb
  clear hx0 hx1 hlen c1 c2 hla hlb
  go_enter Tryz.func76, Tryz.ntmps76
  go_wp2
  go_loopg [3, 11] 2 (fun kq v3 v11 w' => ∃ (i : Nat), v11 = .int .i64 (i : Int) ∧ v3 = .int .i64 (two_len la lb i : Int) ∧ w' = w ∧ Aside0 (i + kq = 2))
  case atStart => exact ⟨0, (by first | rfl | (simp; done)), (by first | rfl | (simp [two_len]; done)), rfl, ⟨rfl⟩⟩
  case round =>
    obtain ⟨i, rfl, rfl, rfl, HI⟩ := hrel
    cases gk with
    | zero =>
      obtain rfl : i = 2 := by have := HI.out; omega
      have e2 : (two_len la lb 2 : Int) = ((la + lb : Nat) : Int) := rfl
      rw [e2]
      obtain ⟨wo, hwo⟩ : ∃ wo : World, wo = wr := ⟨_, rfl⟩
      subst hwo
      go_wp2_with (go_at_call 113; (refine (grow_any (la + lb) HLN.out _).mono ?_); rintro e w1 ⟨v1, rfl, hr1, hb1⟩; have HR1 := Aside0.mk hr1; have HB1 := Aside0.mk hb1; clear hr1 hb1)
      go_loopg [6, 27] 2 (fun kq v6 v27 w' => ∃ (i : Nat) (va : Value), va = v6 ∧ v27 = .int .i64 (i : Int) ∧ Aside0 (Kd.R kv 39 w' wo.heap.size (fun b => wo.heap.size ≤ b) va (two_svs s1 s2 i)) ∧ Aside0 (Below wo.heap.size wo w') ∧ Aside0 (i + kq = 2))
      case atStart => exact ⟨0, _, rfl, (by first | rfl | (simp; done)), HR1, HB1, ⟨rfl⟩⟩
      case round =>
        clear HR1 HB1
        obtain ⟨i, va, rfl, rfl, HR, HB, HI⟩ := hrel
        have hy0 := cell_move (w' := wr) HX0.out (fun hlt => HB.out.block _ hlt)
        have hy1 := cell_move (w' := wr) HX1.out (fun hlt => HB.out.block _ hlt)
        cases gk with
        | zero =>
          obtain rfl : i = 2 := by have := HI.out; omega
          have hr := HR.out
          rw [show two_svs s1 s2 2 = s1 ++ s2 from rfl, HSV.out] at hr
          obtain ⟨Av, cv, ev⟩ := Kd.R_slice hr
          subst ev
          have HRO := Aside0.mk hr
          clear hr
          go_wp2
          go_ret
          exact ⟨_, rfl, HRO.out, HB.out⟩
        | succ m1 =>
          have hi2 : i = 0 ∨ i = 1 := by have := HI.out; omega
          rcases hi2 with rfl | rfl
          · have hr := HR.out
            rw [show two_svs s1 s2 0 = [] from rfl] at hr
            obtain ⟨Av, cv, ev⟩ := Kd.R_slice hr
            subst ev
            replace HR := Aside0.mk hr
            have hcc := kv_C_below HC1.out HB.out
            rw [HL1.out] at hcc
            have HCC := Aside0.mk hcc
            clear hr hcc
            go_wp2_with ((with_reducible refine gate_builtin (b := .append) (xs := #[.tmp 31, .tmp 32]) rfl ?_); at_builtin; refine Kd.R_append_rows kv (w0 := wo) (W := wr) wo.heap.size rfl (.tmp 31) (.tmp 32) 22 39 (.slice none 0 0) 24 rfl Tryz.underlying22 perm_infoG rfl (by decide) (by omega) (.slice Av ([] : List Sv).length cv) ([] : List Sv) s1 A la ca (fun b => wo.heap.size ≤ b) (fun _ => False) rfl rfl HR.out HCC.out (fun x cs h => h) (fun _ h => h.elim) (fun _ h => Nat.le_trans HB.out.size h) HB.out HB.out.size ?aL ?_; (case aL => have := HLN.out; have := HL1.out; have := HL2.out; simp; omega); intro v1 w1 ho hb hg hat; have HO1 := Aside0.mk ho; have HB1 := Aside0.mk hb; clear ho hb hg hat)
            go_roundg m1
            case measure => exact Nat.lt_succ_self _
            case rel => exact ⟨1, _, rfl, (by first | rfl | (simp; done)), HO1, HB1, ⟨by have := HI.out; omega⟩⟩
          · have hr := HR.out
            rw [show two_svs s1 s2 1 = s1 from rfl] at hr
            obtain ⟨Av, cv, ev⟩ := Kd.R_slice hr
            subst ev
            replace HR := Aside0.mk hr
            have hcc := kv_C_below HC2.out HB.out
            rw [HL2.out] at hcc
            have HCC := Aside0.mk hcc
            clear hr hcc
            go_wp2_with ((with_reducible refine gate_builtin (b := .append) (xs := #[.tmp 31, .tmp 32]) rfl ?_); at_builtin; refine Kd.R_append_rows kv (w0 := wo) (W := wr) wo.heap.size rfl (.tmp 31) (.tmp 32) 22 39 (.slice none 0 0) 24 rfl Tryz.underlying22 perm_infoG rfl (by decide) (by omega) (.slice Av s1.length cv) s1 s2 B lb cb (fun b => wo.heap.size ≤ b) (fun _ => False) rfl rfl HR.out HCC.out (fun x cs h => h) (fun _ h => h.elim) (fun _ h => Nat.le_trans HB.out.size h) HB.out HB.out.size ?aL ?_; (case aL => have := HLN.out; have := HL1.out; have := HL2.out; simp; omega); intro v1 w1 ho hb hg hat; have HO1 := Aside0.mk ho; have HB1 := Aside0.mk hb; clear ho hb hg hat)
            go_roundg m1
            case measure => exact Nat.lt_succ_self _
            case rel => exact ⟨2, _, rfl, (by first | rfl | (simp; done)), HO1, HB1, ⟨by have := HI.out; omega⟩⟩
    | succ m1 =>
      have hi2 : i = 0 ∨ i = 1 := by have := HI.out; omega
      have hlt0 : decide ((la : Int) < 0) = false := decide_eq_false (by omega)
      have hlt1 : decide (((la + lb : Nat) : Int) < 0) = false := decide_eq_false (by omega)
      have hlt2 : decide ((la : Int) + (lb : Int) < 0) = false := decide_eq_false (by omega)
      have w0_ : wrap64 ((la : Int)) = (la : Int) := IntWalk.wrap64_in _ ⟨by omega, by have := HLN.out; omega⟩
      have w1_ : wrap64 ((la : Int) + (lb : Int)) = ((la + lb : Nat) : Int) := (IntWalk.wrap64_in _ ⟨by omega, by have := HLN.out; omega⟩).trans (by omega)
      have hy0 := HX0.out
      have hy1 := HX1.out
      rcases hi2 with rfl | rfl
      · have e0 : (two_len la lb 0 : Int) = 0 := rfl
        rw [e0]
        go_wp2
        go_roundg m1
        case measure => exact Nat.lt_succ_self _
        case rel => exact ⟨1, (by first | rfl | (simp; done)), (by first | (rw [w0_]; done) | rfl | (simp [two_len, w0_]; done)), rfl, ⟨by have := HI.out; omega⟩⟩
      · have e0 : (two_len la lb 1 : Int) = (la : Int) := rfl
        rw [e0]
        go_wp2
        go_roundg m1
        case measure => exact Nat.lt_succ_self _
        case rel => exact ⟨2, (by first | rfl | (simp; done)), (by first | (rw [w1_]; done) | rfl | (simp [two_len, w1_]; done)), rfl, ⟨by have := HI.out; omega⟩⟩
theorem heap_push2 (w : World) (o : Obj) : (w.alloc o).heap = w.heap.push o := rfl
def permgroup_Join.f (k : Nat) (a0_0 : Int) (l0_1 : List (List Int)) (a1_0 : Int) (l1_1 : List (List Int)) : Option (Int × List (List Int) × Int) := (permgroup_two.f k a0_0 l0_1 a1_0 l1_1).bind fun e => if e = 0 then (if l0_1.length ≤ 500 ∧ l1_1.length ≤ 500 ∧ ∀ p ∈ l0_1 ++ l1_1, p.length ≤ 1000 then (if 32 < l0_1.length + l1_1.length then some (0, [], 5) else some (a0_0, l0_1 ++ l1_1, 0)) else none) else some (0, [], e)
theorem permgroup_Join.mono : ∀ a0_0 l0_1 a1_0 l1_1 k, LeO (permgroup_Join.f k a0_0 l0_1 a1_0 l1_1) (permgroup_Join.f (k + 1) a0_0 l0_1 a1_0 l1_1) := fun _ _ _ _ k => LeO.bind (permgroup_two.mono _ _ _ _ _) (fun _ => LeO.refl _)
set_option maxHeartbeats 8000000 in
set_option maxRecDepth 100000 in
theorem permgroup_Join.calls (k : Nat) (a0_0 : Int) (A0_1 : Option Addr) (c0_1 : Nat) (l0_1 : List (List Int)) (a1_0 : Int) (A1_1 : Option Addr) (c1_1 : Nat) (l1_1 : List (List Int)) (r1 : Int) (r2 : List (List Int)) (r3 : Int) (w : World) (hr0_1 : Kd.C (Kd.slice 3 (Kd.int .i64)) w A0_1 l0_1.length l0_1) (hc0_1 : l0_1.length ≤ c0_1) (hr1_1 : Kd.C (Kd.slice 3 (Kd.int .i64)) w A1_1 l1_1.length l1_1) (hc1_1 : l1_1.length ≤ c1_1) (h : permgroup_Join.f k a0_0 l0_1 a1_0 l1_1 = some (r1, r2, r3)) :
    Calls Tryz.prog 30 #[.agg #[.int .i64 a0_0, .slice A0_1 l0_1.length c0_1], .agg #[.int .i64 a1_0, .slice A1_1 l1_1.length c1_1]] w fun e w' => ∃ v1_ : Value, e = .returned (.tuple #[.agg #[.int .i64 r1, v1_], .int .i64 r3]) ∧ Kd.S (Kd.slice 3 (Kd.int .i64)) 39 w' w.heap.size (fun _ => True) v1_ r2 ∧ Below w.heap.size w w' := by
  have hu := Tryz.underlying24
  have hur := Tryz.underlying22
  have HC0 := Aside0.mk hc0_1
  have HC1 := Aside0.mk hc1_1
  have HB0 : Aside0 (Below w.heap.size w (((w.alloc (.cells #[.int .i64 a0_0, .slice A0_1 l0_1.length c0_1] 24)).alloc (.cells #[.int .i64 a1_0, .slice A1_1 l1_1.length c1_1] 24)).alloc (.cells #[.int .i64 0, .slice none 0 0] 24))) := ⟨below_alloc (below_alloc (below_alloc (Below.refl _ _) _) _) _⟩
  have HG := Aside0.mk (Kd.C_below hr0_1 HB0.out)
  have HH := Aside0.mk (Kd.C_below hr1_1 HB0.out)
  have HX0 : Aside0 ((((w.alloc (.cells #[.int .i64 a0_0, .slice A0_1 l0_1.length c0_1] 24)).alloc (.cells #[.int .i64 a1_0, .slice A1_1 l1_1.length c1_1] 24)).alloc (.cells #[.int .i64 0, .slice none 0 0] 24)).heap[w.heap.size]? = some (.cells #[.int .i64 a0_0, .slice A0_1 l0_1.length c0_1] 24 (0, 0))) := ⟨blk_alloc (blk_alloc (blk_new _ _) _) _⟩
  have HX1 : Aside0 ((((w.alloc (.cells #[.int .i64 a0_0, .slice A0_1 l0_1.length c0_1] 24)).alloc (.cells #[.int .i64 a1_0, .slice A1_1 l1_1.length c1_1] 24)).alloc (.cells #[.int .i64 0, .slice none 0 0] 24)).heap[w.heap.size + 1]? = some (.cells #[.int .i64 a1_0, .slice A1_1 l1_1.length c1_1] 24 (0, 0))) := ⟨by simp only [heap_push2, Array.getElem?_push, Array.size_push]; simp⟩
  have HX2 : Aside0 ((((w.alloc (.cells #[.int .i64 a0_0, .slice A0_1 l0_1.length c0_1] 24)).alloc (.cells #[.int .i64 a1_0, .slice A1_1 l1_1.length c1_1] 24)).alloc (.cells #[.int .i64 0, .slice none 0 0] 24)).heap[w.heap.size + 1 + 1]? = some (.cells #[.int .i64 0, .slice none 0 0] 24 (0, 0))) := ⟨by simp only [heap_push2, Array.getElem?_push, Array.size_push]; simp⟩
  unfold permgroup_Join.f at h
  replace h := Option.bind_eq_some_iff.1 h
  obtain ⟨e, h1, h⟩ := h
  have H1 := Aside0.mk h1
  clear hr0_1 hc0_1 hr1_1 hc1_1 h1
  by_cases e0 : e = 0
  · subst e0
    rw [if_pos rfl] at h
    have hg : l0_1.length ≤ 500 ∧ l1_1.length ≤ 500 ∧ ∀ p ∈ l0_1 ++ l1_1, p.length ≤ 1000 := by
      by_cases e : l0_1.length ≤ 500 ∧ l1_1.length ≤ 500 ∧ ∀ p ∈ l0_1 ++ l1_1, p.length ≤ 1000
      · exact e
      · rw [if_neg e] at h; cases h
    rw [if_pos hg] at h
    have HGG := Aside0.mk hg
    have ws : wrap64 ((l0_1.length : Int) + (l1_1.length : Int)) = ((l0_1.length + l1_1.length : Nat) : Int) := (IntWalk.wrap64_in _ ⟨by omega, by omega⟩).trans (by omega)
    have ws2 : wrap64 ((l0_1.length : Int) + (l1_1.length : Int)) = (l0_1.length : Int) + (l1_1.length : Int) := IntWalk.wrap64_in _ ⟨by omega, by omega⟩
    by_cases hl : 32 < l0_1.length + l1_1.length
    · rw [if_pos hl] at h
      obtain ⟨rfl, h3⟩ := Prod.mk.inj (Option.some.inj h)
      obtain ⟨rfl, rfl⟩ := Prod.mk.inj h3
      have d1 : decide (32 < (l0_1.length : Int) + (l1_1.length : Int)) = true := decide_eq_true (by omega)
      have d2 : decide (32 < ((l0_1.length + l1_1.length : Nat) : Int)) = true := decide_eq_true (by omega)
      have d3 : decide (32 < l0_1.length + l1_1.length) = true := decide_eq_true (by omega)
      clear h hl h3 hg
      go_enter Tryz.func30, Tryz.ntmps30
      go_wp2_with (go_at_call 74; (refine (permgroup_two.calls k a0_0 A0_1 c0_1 l0_1 a1_0 A1_1 c1_1 l1_1 0 _ HG.out HC0.out HH.out HC1.out H1.out).mono ?_); rintro e_ w1 ⟨rfl, hb1⟩; have HB1 := Aside0.mk (below_step HB0.out hb1); have HG1 := Aside0.mk (Kd.C_below HG.out hb1); have HH1 := Aside0.mk (Kd.C_below HH.out hb1); have HY0 := Aside0.mk ((hb1.block _ (blk_lt HX0.out)).trans HX0.out); have HY1 := Aside0.mk ((hb1.block _ (blk_lt HX1.out)).trans HX1.out); have HY2 := Aside0.mk ((hb1.block _ (blk_lt HX2.out)).trans HX2.out); have j0 := blk_lt HY0.out; have j1 := blk_lt HY1.out; have j2 := blk_lt HY2.out; have j3 := Nat.ne_of_lt j0; have j4 := Nat.ne_of_lt j1; have j5 := Nat.ne_of_lt j2; have g0 := blk_cell HY0.out 0; have g1 := blk_cell HY0.out 1; have k1 := blk_cell HY1.out 1; have z0 := blk_cell HY2.out 0; have z1 := blk_cell HY2.out 1; have f0 := blk_frozen HY2.out 0; have f1 := blk_frozen HY2.out 1; clear hb1)
      have hk2 := blk_put HY2.out 0 (.int .i64 0) rfl
      have hk3 := blk_put hk2 1 (.slice none 0 0) rfl
      refine bodyPost_ret (results_ct rfl _ _ (w.heap.size + 1 + 1) 24 #[.int .i64 0, .slice none 0 0] (0, 0) _ rfl hk3 Tryz.underlying24 rfl (by kernel_rfl)) rfl ?_
      exact ⟨_, rfl, Kd.S_nil _ _ _ _ _, (HB1.out.setCell (by simp; omega) _).setCell (by simp; omega) _⟩
    · rw [if_neg hl] at h
      obtain ⟨rfl, h3⟩ := Prod.mk.inj (Option.some.inj h)
      obtain ⟨rfl, rfl⟩ := Prod.mk.inj h3
      have d1 : decide (32 < (l0_1.length : Int) + (l1_1.length : Int)) = false := decide_eq_false (by omega)
      have d2 : decide (32 < ((l0_1.length + l1_1.length : Nat) : Int)) = false := decide_eq_false (by omega)
      have d3 : decide (32 < l0_1.length + l1_1.length) = false := decide_eq_false (by omega)
      have HLL : Aside0 (l0_1.length + l1_1.length ≤ 1000) := ⟨by omega⟩
      obtain ⟨l, hl_⟩ : ∃ l, l0_1 ++ l1_1 = l := ⟨_, rfl⟩
      rw [hl_]
      have HLL2 : Aside0 (l.length ≤ 1000) := ⟨by rw [← hl_, List.length_append]; omega⟩
      have hgp := hg.2.2
      rw [hl_] at hgp
      have HUP := Aside0.mk hgp
      have HLE := Aside0.mk hl_
      clear h hl h3 hg hl_ hgp
      go_enter Tryz.func30, Tryz.ntmps30
      go_wp2_with (first
        | (go_at_call 76; (refine (concat_kv _ (w1.heap.size + 1) A0_1 c0_1 s1 A1_1 c1_1 s2 ?q0 ?q1 (kv_C_below HS1.out bel0) (kv_C_below HS2.out bel0) HSL.out).mono ?_); (case q0 => (rw [World.cell?_alloc_at _ _ _ _ (by simp), HSL1.out]; rfl)); (case q1 => (rw [World.cell?_alloc_at _ _ _ _ (by simp), HSL2.out]; rfl)); rintro e2 w2 ⟨v2, rfl, hr2, hb2⟩; have hw2 := below_step (w := w1) bel0 hb2; have HB2 := Aside0.mk hw2; have HR2 := Aside0.mk hr2; have HX := Aside0.mk ((hb2.block w1.heap.size (by simp; omega)).trans (show ((w1.alloc (.cells #[.int .i64 a0_0, .slice none 0 0] 24)).alloc (.cells #[.slice A0_1 l0_1.length c0_1, .slice A1_1 l1_1.length c1_1] 22)).heap[w1.heap.size]? = some (.cells #[.int .i64 a0_0, .slice none 0 0] 24 (0, 0)) from blk_alloc (blk_new _ _) _)); obtain ⟨A2, c2, e2⟩ := Kd.R_slice hr2; subst e2; clear hr2 hb2 hw2)
        | (go_at_call 74; (refine (permgroup_two.calls k a0_0 A0_1 c0_1 l0_1 a1_0 A1_1 c1_1 l1_1 0 _ HG.out HC0.out HH.out HC1.out H1.out).mono ?_); rintro e_ w1 ⟨rfl, hb1⟩; have HB1 := Aside0.mk (below_step HB0.out hb1); have HG1 := Aside0.mk (Kd.C_below HG.out hb1); have HH1 := Aside0.mk (Kd.C_below HH.out hb1); have HY0 := Aside0.mk ((hb1.block _ (blk_lt HX0.out)).trans HX0.out); have HY1 := Aside0.mk ((hb1.block _ (blk_lt HX1.out)).trans HX1.out); have HY2 := Aside0.mk ((hb1.block _ (blk_lt HX2.out)).trans HX2.out); have j0 := blk_lt HY0.out; have j1 := blk_lt HY1.out; have j2 := blk_lt HY2.out; have j3 := Nat.ne_of_lt j0; have j4 := Nat.ne_of_lt j1; have j5 := Nat.ne_of_lt j2; have g0 := blk_cell HY0.out 0; have g1 := blk_cell HY0.out 1; have k1 := blk_cell HY1.out 1; have z0 := blk_cell HY2.out 0; have z1 := blk_cell HY2.out 1; have f0 := blk_frozen HY2.out 0; have f1 := blk_frozen HY2.out 1; clear hb1; obtain ⟨s1, l1_, q1_, p1_⟩ := C_vals HG1.out; obtain ⟨s2, l2_, q2_, p2_⟩ := C_vals HH1.out; have HS1 := Aside0.mk q1_; have HS2 := Aside0.mk q2_; have HP1 := Aside0.mk p1_; have HP2 := Aside0.mk p2_; have HSL1 := Aside0.mk l1_; have HSL2 := Aside0.mk l2_; have HSL : Aside0 (s1.length + s2.length ≤ 1000) := ⟨by rw [l1_, l2_]; exact HLL.out⟩; clear q1_ q2_ p1_ p2_ l1_ l2_))
      have HPS : Aside0 ((s1 ++ s2).length = l.length ∧ ∀ (j : Nat) (v : Sv) (p : List Int), (s1 ++ s2)[j]? = some v → l[j]? = some p → PermAt w1 (svE v) p) := ⟨by
        rw [← HLE.out]
        refine ⟨by rw [List.length_append, List.length_append, HSL1.out, HSL2.out], fun j v p hv hp => ?_⟩
        by_cases hj : j < s1.length
        · rw [List.getElem?_append_left hj] at hv
          rw [List.getElem?_append_left (by rw [← HSL1.out]; exact hj)] at hp
          exact HP1.out j v p hv hp
        · rw [List.getElem?_append_right (by omega)] at hv
          rw [List.getElem?_append_right (by rw [← HSL1.out]; omega), ← HSL1.out] at hp
          exact HP2.out _ v p hv hp⟩
      obtain ⟨xb, hxb⟩ : ∃ xb, w1.heap.size = xb := ⟨_, rfl⟩
      rw [hxb] at HX
      have HXL : Aside0 (xb < w2.heap.size) := ⟨blk_lt HX.out⟩
      have HXB : Aside0 (w1.heap.size ≤ xb) := ⟨Nat.le_of_eq hxb⟩
      have HY2L := Aside0.mk (blk_lt HY2.out)
      have HSUM : Aside0 (s1.length + s2.length = l.length) := ⟨by have := HPS.out.1; rw [List.length_append] at this; exact this⟩
      obtain ⟨sv, hsv⟩ : ∃ sv, s1 ++ s2 = sv := ⟨_, rfl⟩
      rw [hsv] at HR2 HPS
      rw [← List.length_append, hsv, HPS.out.1]
      have hr3 := Kd.R_lower (Kd.R_mono (Kd.R_bound HR2.out) (fun b hb => (⟨hb.2.2.1, fun e => by have h1 := hb.1; simp at h1; omega⟩ : b < w2.heap.size ∧ b ≠ xb))) (show w1.heap.size ≤ _ by simp; omega)
      rw [HPS.out.1] at hr3
      have HRV0 := Aside0.mk hr3
      rw [hxb]
      clear hxb j0 j1 j2 j3 j4 j5 g0 g1 k1 z0 z1 f0 f1 hr3 hsv
      go_loopg [36] l.length (fun kq v36 w' => ∃ (j : Nat) (acc : List (List Int)) (vw : Value), v36 = .int .i64 (j : Int) ∧ Aside0 (w'.heap[xb]? = some (.cells #[.int .i64 a0_0, vw] 24 (0, 0))) ∧ Aside0 (Kd.S (Kd.slice 3 (Kd.int .i64)) 39 w' w1.heap.size (fun b => w2.heap.size ≤ b) vw acc) ∧ Aside0 (Kd.R kv 39 w' w1.heap.size (fun b => b < w2.heap.size ∧ b ≠ xb) (.slice A2 l.length c2) sv) ∧ Aside0 (acc = l.take j) ∧ Aside0 (Below w1.heap.size w1 w') ∧ Aside0 (w2.heap.size ≤ w'.heap.size) ∧ Aside0 (j + kq = l.length))
      case atStart => exact ⟨0, [], _, (by first | rfl | (simp; done)), HX, ⟨Kd.S_nil _ _ _ _ _⟩, HRV0, ⟨rfl⟩, HB2, ⟨Nat.le_refl _⟩, ⟨by omega⟩⟩
      case round =>
        clear HX HRV0
        obtain ⟨j, acc, vw, rfl, HZ, HSW, HRV, HACC, HBJ, HGE, HJ⟩ := hrel
        have HXW := Aside0.mk (blk_lt HZ.out)
        obtain ⟨Aw, cw, ew⟩ := Kd.R_slice (Kd.S_R HSW.out)
        subst ew
        have hz0 : wr.cell? ⟨xb, 0, none⟩ = some (.int .i64 a0_0) := blk_cell HZ.out 0
        have hz1 : wr.cell? ⟨xb, 1, none⟩ = some (.slice Aw acc.length cw) := blk_cell HZ.out 1
        cases gk with
        | zero =>
          have hj : (j < l.length) = False := eq_false (by have := HJ.out; omega)
          have hj2 : ((j : Int) < (s1.length : Int) + (s2.length : Int)) = False := eq_false (by have := HJ.out; have := HSUM.out; omega)
          have ha := HACC.out
          rw [List.take_of_length_le (by have := HJ.out; omega)] at ha
          subst ha
          have HZR := Aside0.mk ((HBJ.out.block _ HY2L.out).trans HY2.out)
          have r0 := blk_cell HZR.out 0
          have r1 := blk_cell HZR.out 1
          have rf0 := blk_frozen HZR.out 0
          have rf1 := blk_frozen HZR.out 1
          go_wp2
          have hk2 := blk_put HZR.out 0 (.int .i64 a0_0) rfl
          have hk3 := blk_put hk2 1 (.slice Aw acc.length cw) rfl
          have hty : ∀ q, q ∈ 39 :: (Kd.slice 3 (Kd.int .i64)).E → q ≠ 24 := by decide
          have hS2 := Kd.S_set HSW.out HZR.out hty 0 (.int .i64 a0_0)
          have hS3 := Kd.S_set hS2 hk2 hty 1 (.slice Aw acc.length cw)
          refine bodyPost_ret (results_ct rfl _ _ (w.heap.size + 1 + 1) 24 #[.int .i64 a0_0, .slice Aw acc.length cw] (0, 0) _ rfl hk3 Tryz.underlying24 rfl (by kernel_rfl)) rfl ?_
          exact ⟨_, rfl, Kd.S_lower (Kd.S_mono hS3 (fun _ _ => trivial)) HB1.out.size, ((below_then HB1.out HB1.out.size HBJ.out).setCell (by simp; omega) _).setCell (by simp; omega) _⟩
        | succ m1 =>
          have hjl : j < l.length := by have := HJ.out; omega
          have hj : (j < l.length) = True := eq_true hjl
          have hj2 : ((j : Int) < (l.length : Int)) = True := eq_true (by omega)
          have hj3 : ((j : Int) < (s1.length : Int) + (s2.length : Int)) = True := eq_true (by have := HSUM.out; omega)
          have hj0 : (0 ≤ (j : Int)) = True := eq_true (by omega)
          have HJ2 : Aside0 (j + 1 + m1 = l.length) := ⟨by have := HJ.out; omega⟩
          have wi : wrap64 ((j : Int) + 1) = ((j + 1 : Nat) : Int) := (IntWalk.wrap64_in _ ⟨by omega, by have := HLL2.out; omega⟩).trans (by omega)
          have HHL : Aside0 ((acc.length + 1) * 24 ≤ 140737488355328) := ⟨by rw [HACC.out, List.length_take]; have := HLL2.out; omega⟩
          have hsj : j < sv.length := by rw [HPS.out.1]; exact hjl
          obtain ⟨_, _, eR, _, hCR⟩ := Kd.R_reads HRV.out
          injection eR with e1 e2 e3
          subst e1; subst e3
          obtain ⟨ad, eA, hcr⟩ := hCR.2.2 (by omega)
          subst eA
          obtain ⟨cs, _, hcs, hcell0⟩ := hcr j sv[j] (List.getElem?_eq_getElem hsj)
          have hcs' : cs = [svE sv[j]] := hcs
          have hcell := hcell0 0 (svE sv[j]) (by rw [hcs']; rfl)
          rw [show kv.sz = 1 from rfl, Nat.mul_one, Nat.add_zero] at hcell
          obtain ⟨u, hu⟩ : ∃ u, l[j] = u := ⟨_, rfl⟩
          have hpa := HPS.out.2 j sv[j] l[j] (List.getElem?_eq_getElem hsj) (List.getElem?_eq_getElem hjl)
          rw [hu] at hpa
          have HUL : Aside0 (u.length ≤ 1000) := ⟨HUP.out u (hu ▸ List.getElem_mem hjl)⟩
          obtain ⟨Au, cu, eu, hleu, hCu⟩ := hpa
          rw [eu] at hcell
          have HPG := Aside0.mk (PermAt.below (w' := wr) ⟨Au, cu, rfl, hleu, hCu⟩ HBJ.out)
          have HNA : Aside0 (acc ++ [u] = l.take (j + 1)) := ⟨by rw [HACC.out, ← hu, List.take_succ_eq_append_getElem hjl]⟩
          have hxw : xb < wr.heap.size := HXW.out
          clear hjl hsj hcr hcs hcs' hcell0 hu hleu hCu eu e2 hCR
          go_wp2
          go_region_law (first
            | (refine Kd.S_append_step (Kd.slice 3 (Kd.int .i64)) (w0 := w1) w1.heap.size (by rfl) (.tmp 41) (.tmp 44) 22 39 (.slice none 0 0) 24 rfl Tryz.underlying22 perm_infoG rfl (by decide) (by omega) (.slice Aw acc.length cw) acc u [.slice A6 u.length c6] (fun b => w2.heap.size ≤ b) (fun b => some b = (Value.slice A6 u.length c6).ownBlock) ?hs ?hx ?hp ?hokp ?hf ?hO ?hB ?hb ?hl ?_; (case hs => exact rfl); (case hx => exact rfl); (case hp => exact ⟨_, rfl, Kd.R_tight rfl HR6.out⟩); (case hokp => exact (fun b hb => HN6.out b hb)); (case hf => exact (fun b hb => Nat.le_trans (Nat.le_trans HGE.out HB6.out.size) hb)); (case hO => exact HS6.out); (case hB => exact (below_step HBJ.out HB6.out)); (case hb => exact (below_step HBJ.out HB6.out).size); (case hl => exact HHL.out); intro v1 w7 ho hb hg hat; have HZ1 := Aside0.mk ((hg.block xb (Nat.lt_of_lt_of_le HXW.out HB6.out.size) HNX.out).trans HZ6.out); have ha0 : w7.cell? ⟨xb, 1, none⟩ = some (.slice Aw acc.length cw) := blk_cell HZ1.out 1; have hf0 : w7.frozen? ⟨xb, 1, none⟩ = false := blk_frozen HZ1.out 1; have el : (acc ++ [u]).length = acc.length + 1 := (by simp); obtain ⟨Ao1, co1, eo1⟩ := Kd.R_slice (Kd.S_R ho); subst eo1; rw [el] at ho ⊢; have HO1 := Aside0.mk ho; have HB9 := Aside0.mk hb; have HRV9 := Aside0.mk (Kd.R_step HRV6.out (fun b hb2 hlt => hg.block b hlt (fun e => Nat.lt_irrefl b (Nat.lt_of_lt_of_le hb2.1 (HVW.out b e.symm))))); have HGE9 := Aside0.mk (Nat.le_trans (Nat.le_trans HGE.out HB6.out.size) hg.size); clear ho hg hat hb el)
            | (go_simp; go_at_call 77; (refine (clone_perm (p := u) (HPG.out.below bel0) (Nat.le_trans HUL.out (by decide))).mono ?_); rintro e w6 ⟨v6, rfl, hr6, hb6⟩; have HB6 := Aside0.mk (below_step (w := wr) bel0 hb6); have hr7 := Kd.R_lower hr6 (show wr.heap.size ≤ _ from by first | exact Nat.le_refl _ | simp); obtain ⟨A6, c6, e6⟩ := Kd.R_slice hr7; subst e6; have HR6 := Aside0.mk (Kd.R_lower hr7 HBJ.out.size); have HN6 : Aside0 (∀ b, some b = (Value.slice A6 u.length c6).ownBlock → w2.heap.size ≤ b ∧ some b ≠ (Value.slice Aw acc.length cw).ownBlock) := ⟨fun b hb => ⟨Nat.le_trans HGE.out (Kd.R_base hr7 b hb.symm), fun e => by have h1 := Kd.R_base hr7 b hb.symm; have h2 := Kd.R_lt (Kd.S_R HSW.out) b e.symm; omega⟩⟩; have HVW : Aside0 (∀ b, (Value.slice Aw acc.length cw).ownBlock = some b → w2.heap.size ≤ b) := ⟨fun b hb => (Kd.S_R HSW.out).1 b hb⟩; have HRV6 := Aside0.mk (Kd.R_below HRV.out HB6.out); have HNX : Aside0 (some xb ≠ (Value.slice Aw acc.length cw).ownBlock) := ⟨fun e => by have h1 := (Kd.S_R HSW.out).1 xb e.symm; have h2 := HXL.out; omega⟩; have HS6 := Aside0.mk (Kd.S_mono (ok' := fun b => w2.heap.size ≤ b ∧ ¬ some b = (Value.slice A6 u.length c6).ownBlock) (Kd.S_step (w1 := w6) (Kd.S_mono (ok' := fun b => w2.heap.size ≤ b ∧ b < wr.heap.size) (Kd.S_bound HSW.out) (fun b hb => ⟨hb.1, hb.2.2.1⟩)) (fun b hb hlt => HB6.out.block b hb.2)) (fun b hb => ⟨hb.1, fun e => Nat.lt_irrefl b (Nat.lt_of_lt_of_le hb.2 (Kd.R_base hr7 b e.symm))⟩)); have HZ6 := Aside0.mk ((HB6.out.block xb HXW.out).trans HZ.out); have hz26 : w6.cell? ⟨xb, 1, none⟩ = some (.slice Aw acc.length cw) := blk_cell HZ6.out 1; have hxw6 : xb < w6.heap.size := Nat.lt_of_lt_of_le HXW.out HB6.out.size; have hxn6 : xb ≠ w6.heap.size := Nat.ne_of_lt hxw6; clear hr6 hb6 hr7))
          all_goals
            have p2 := blk_put HZ1.out 1 (.slice Ao1 (acc.length + 1) co1) rfl
            have hty47 : ∀ q, q ∈ 39 :: (Kd.slice 3 (Kd.int .i64)).E → q ≠ 24 := by decide
            have htyv : ∀ q, q ∈ 39 :: kv.E → q ≠ 24 := by decide
            have S9 := Kd.S_set HO1.out HZ1.out hty47 1 (.slice Ao1 (acc.length + 1) co1)
            have R9 := Kd.R_set HRV9.out HZ1.out htyv 1 (.slice Ao1 (acc.length + 1) co1)
            go_wp2
            go_roundg m1
            case measure => exact Nat.lt_succ_self _
            case rel => exact ⟨j + 1, acc ++ [u], _, (by first | (rw [wi]; done) | rfl), ⟨p2⟩, ⟨S9⟩, ⟨R9⟩, HNA, ⟨HB9.out.setCell HXB.out _⟩, ⟨by simpa using HGE9.out⟩, HJ2⟩
  · rw [if_neg e0] at h
    obtain ⟨rfl, h3⟩ := Prod.mk.inj (Option.some.inj h)
    obtain ⟨rfl, rfl⟩ := Prod.mk.inj h3
    have e1 : (e == 0) = false := beq_eq_false_iff_ne.mpr e0
    have e2 : (e != 0) = true := bne_iff_ne.mpr e0
    clear h e0 h3
    go_enter Tryz.func30, Tryz.ntmps30
    go_wp2_with (go_at_call 74; (refine (permgroup_two.calls k a0_0 A0_1 c0_1 l0_1 a1_0 A1_1 c1_1 l1_1 e _ HG.out HC0.out HH.out HC1.out H1.out).mono ?_); rintro e_ w1 ⟨rfl, hb1⟩; have HB1 := Aside0.mk (below_step HB0.out hb1); have HG1 := Aside0.mk (Kd.C_below HG.out hb1); have HH1 := Aside0.mk (Kd.C_below HH.out hb1); have HY0 := Aside0.mk ((hb1.block _ (blk_lt HX0.out)).trans HX0.out); have HY1 := Aside0.mk ((hb1.block _ (blk_lt HX1.out)).trans HX1.out); have HY2 := Aside0.mk ((hb1.block _ (blk_lt HX2.out)).trans HX2.out); have j0 := blk_lt HY0.out; have j1 := blk_lt HY1.out; have j2 := blk_lt HY2.out; have j3 := Nat.ne_of_lt j0; have j4 := Nat.ne_of_lt j1; have j5 := Nat.ne_of_lt j2; have g0 := blk_cell HY0.out 0; have g1 := blk_cell HY0.out 1; have k1 := blk_cell HY1.out 1; have z0 := blk_cell HY2.out 0; have z1 := blk_cell HY2.out 1; have f0 := blk_frozen HY2.out 0; have f1 := blk_frozen HY2.out 1; clear hb1)
    have hk2 := blk_put HY2.out 0 (.int .i64 0) rfl
    have hk3 := blk_put hk2 1 (.slice none 0 0) rfl
    refine bodyPost_ret (results_ct rfl _ _ (w.heap.size + 1 + 1) 24 #[.int .i64 0, .slice none 0 0] (0, 0) _ rfl hk3 Tryz.underlying24 rfl (by kernel_rfl)) rfl ?_
    exact ⟨_, rfl, Kd.S_nil _ _ _ _ _, (HB1.out.setCell (by simp; omega) _).setCell (by simp; omega) _⟩
end Go.Proofs.YtmbldnoepjmhhaaGreat.Bs
end
section
/- The walk of sub: are all generators elements? -/
namespace Go.Proofs.YtmbldnoepjmhhaaGreat.Bs
open Go.RowKit Go.Sort Go.Shelf Go.Proofs.YtmbldnoepjmhhaaGreatW.PrintWords Go.Proofs.YtmbldnoepjmhhaaGreatW.PrintLast Go.Proofs.YtmbldnoepjmhhaaGreatW.PrintMore Go.Proofs.YtmbldnoepjmhhaaGreat.Plain Go.Proofs.YtmbldnoepjmhhaaGreat.PBs
attribute [local go_sem] max2_int min2_int max_two min_two max_three min_three max_four min_four
def outIdx (C : Ch) : Nat → List (List Int) → Option Int
  | _, [] => some (-1)
  | i, p :: r => (C.contains p).bind fun b => if b = true then outIdx C (i + 1) r else some (i : Int)
set_option maxHeartbeats 4000000 in
set_option maxRecDepth 100000 in
theorem sub1_any (C : Ch) (p : List Int) (r : Bool) (w : World) (ρ : Nat → Nat) (base c capL bc : Nat) (la : Option Addr) (d : Nat → LD) (v : Value) (hR : ChainAt ρ w base c la capL C d) (hp : PermIn ρ w v p) (hb : w.cell? ⟨bc, 0, none⟩ = some (.pointer (some ⟨c, 0, none⟩))) (h : C.contains p = some r) :
    Calls Tryz.prog 112 #[v, .pointer (some ⟨bc, 0, none⟩)] w fun e w' => e = .returned (.bool (!r)) ∧ Below w.heap.size w w' := by
  have HR := Aside0.mk hR
  have HP := Aside0.mk hp
  have H := Aside0.mk h
  obtain ⟨A, cv, rfl, _, _⟩ := hp
  clear hR h
  go_enter Tryz.func112, Tryz.ntmps112
  go_wp2_with (go_at_call 82; (refine (contains_any C p r _ ρ base c capL la d _ HR.out HP.out H.out).mono ?_); rintro e w3 ⟨rfl, hb3⟩; have HB3 := Aside0.mk hb3; clear hb3)
  go_ret
  exact ⟨rfl, HB3.out⟩
set_option maxHeartbeats 4000000 in
set_option maxRecDepth 100000 in
theorem indexFunc_any (C : Ch) (l : List (List Int)) (r : Int) (w0 w : World) (ρ : Nat → Nat) (base c capL bc : Nat) (la : Option Addr) (d : Nat → LD) (A : Option Addr) (cap : Nat) (hR : ChainAt ρ w base c la capL C d) (hG : Kd.C (Kd.slice 3 (Kd.int .i64)) w0 A l.length l) (hB : Below w0.heap.size w0 w) (hbase : w0.heap.size ≤ base) (hb : w.cell? ⟨bc, 0, none⟩ = some (.pointer (some ⟨c, 0, none⟩))) (h : outIdx C 0 l = some r) :
    Calls Tryz.prog 110 #[.slice A l.length cap, .func (.func 112) #[] #[.pointer (some ⟨bc, 0, none⟩)]] w fun e w' => e = .returned (.int .i64 r) ∧ Below w.heap.size w w' := by
  have HR := Aside0.mk hR
  have HG := Aside0.mk hG
  have HB0 := Aside0.mk hB
  have HBASE := Aside0.mk hbase
  have HMAX := Aside0.mk hG.2.1
  have HBC := Aside0.mk hb
  have H := Aside0.mk h
  clear hR hG hB hbase h hb
  go_enter Tryz.func110, Tryz.ntmps110
  go_wp2
  go_loopg [8] l.length (fun kq v8 w' => ∃ (j : Nat), v8 = .int .i64 (j : Int) ∧ Aside0 (outIdx C j (l.drop j) = some r) ∧ Aside0 (Below w.heap.size w w') ∧ Aside0 (j + kq = l.length))
  case atStart => exact ⟨0, (by first | rfl | (simp; done)), H, ⟨Below.refl _ _⟩, ⟨by omega⟩⟩
  case round =>
    clear H
    obtain ⟨j, rfl, HA, HB, HJ⟩ := hrel
    have h := HA.out
    clear HA
    cases gk with
    | zero =>
      have hj : (j < l.length) = False := eq_false (by have := HJ.out; omega)
      rw [List.drop_eq_nil_of_le (by have := HJ.out; omega)] at h
      obtain rfl := Option.some.inj h
      clear h
      go_wp2
      go_ret
      exact ⟨rfl, HB.out⟩
    | succ m1 =>
      have hjl : j < l.length := by have := HJ.out; omega
      have hj : (j < l.length) = True := eq_true hjl
      have hj2 : ((j : Int) < (l.length : Int)) = True := eq_true (by omega)
      have hj0 : (0 ≤ (j : Int)) = True := eq_true (by omega)
      have HJ2 : Aside0 (j + 1 + m1 = l.length) := ⟨by have := HJ.out; omega⟩
      rw [List.drop_eq_getElem_cons hjl, outIdx] at h
      replace h := Option.bind_eq_some_iff.1 h
      obtain ⟨b, h1, h⟩ := h
      obtain ⟨ad, gv, eA, hcell0, hga⟩ := row_at HG.out (List.getElem?_eq_getElem hjl)
      subst eA
      have HBW := Aside0.mk (below_step HB0.out HB.out)
      have hcell := (World.cell?_of_block (w := w0) (w' := wr) (HBW.out.block _ (World.block_lt_of_cell? w0 _ hcell0))).trans hcell0
      simp only [svE] at hcell
      have HCH := Aside0.mk (HR.out.below HB.out)
      have HGP := Aside0.mk (arg_permIn (w1 := w) hga HCH.out HBW.out HBASE.out)
      simp only [svE] at HGP
      have hbc := cell_move (w' := wr) HBC.out (fun hlt => HB.out.block _ hlt)
      have H1 := Aside0.mk h1
      have wi : wrap64 ((j : Int) + 1) = ((j + 1 : Nat) : Int) := (IntWalk.wrap64_in _ ⟨by omega, by have := HMAX.out; omega⟩).trans (by omega)
      clear h1 hcell0 hga
      by_cases eb : b = true
      · rw [if_pos eb] at h
        have H := Aside0.mk h
        subst eb
        clear h
        go_wp2_with (go_at_call 112; (refine (sub1_any C (l[j]) true _ ρ base c capL bc la d _ HCH.out HGP.out hbc H1.out).mono ?_); rintro e w3 ⟨rfl, hb3⟩; have HB3 := Aside0.mk (below_step HB.out hb3); clear hb3)
        go_roundg m1
        case measure => exact Nat.lt_succ_self _
        case rel => exact ⟨j + 1, (by first | (rw [wi]; done) | rfl), H, HB3, HJ2⟩
      · rw [if_neg eb] at h
        obtain rfl := Option.some.inj h
        have eb2 : b = false := by cases b <;> simp_all
        subst eb2
        clear h eb
        go_wp2_with (go_at_call 112; (refine (sub1_any C (l[j]) false _ ρ base c capL bc la d _ HCH.out HGP.out hbc H1.out).mono ?_); rintro e w3 ⟨rfl, hb3⟩; have HB3 := Aside0.mk (below_step HB.out hb3); clear hb3)
        go_ret
        exact ⟨rfl, HB3.out⟩
set_option maxHeartbeats 4000000 in
set_option maxRecDepth 100000 in
theorem containsFunc_any (C : Ch) (l : List (List Int)) (r : Int) (w0 w : World) (ρ : Nat → Nat) (base c capL bc : Nat) (la : Option Addr) (d : Nat → LD) (A : Option Addr) (cap : Nat) (hR : ChainAt ρ w base c la capL C d) (hG : Kd.C (Kd.slice 3 (Kd.int .i64)) w0 A l.length l) (hB : Below w0.heap.size w0 w) (hbase : w0.heap.size ≤ base) (hb : w.cell? ⟨bc, 0, none⟩ = some (.pointer (some ⟨c, 0, none⟩))) (h : outIdx C 0 l = some r) :
    Calls Tryz.prog 111 #[.slice A l.length cap, .func (.func 112) #[] #[.pointer (some ⟨bc, 0, none⟩)]] w fun e w' => e = .returned (.bool (decide (r ≥ 0))) ∧ Below w.heap.size w w' := by
  have HR := Aside0.mk hR
  have HG := Aside0.mk hG
  have HB0 := Aside0.mk hB
  have HBASE := Aside0.mk hbase
  have HBC := Aside0.mk hb
  have H := Aside0.mk h
  clear hR hG hB hbase h hb
  go_enter Tryz.func111, Tryz.ntmps111
  go_wp2_with (go_at_call 110; (refine (indexFunc_any C l r w0 _ ρ base c capL bc la d A cap HR.out HG.out HB0.out HBASE.out HBC.out H.out).mono ?_); rintro e w3 ⟨rfl, hb3⟩; have HB3 := Aside0.mk hb3; clear hb3)
  go_ret
  exact ⟨by simp, HB3.out⟩
def permgroup_sub.f (a0_0 : Int) (l0_1 : List (List Int)) (a1_0 : Int) (l1_1 : List (List Int)) : Option Bool := if 0 ≤ a1_0 ∧ a1_0 ≤ 20 then (new_ a1_0.toNat l1_1).bind fun C => (outIdx C 0 l0_1).bind fun r => some (!decide (r ≥ 0)) else none
set_option maxHeartbeats 4000000 in
set_option maxRecDepth 100000 in
theorem permgroup_sub.calls (a0_0 : Int) (A0_1 : Option Addr) (c0_1 : Nat) (l0_1 : List (List Int)) (a1_0 : Int) (A1_1 : Option Addr) (c1_1 : Nat) (l1_1 : List (List Int)) (r : Bool) (w : World) (hr0_1 : Kd.C (Kd.slice 3 (Kd.int .i64)) w A0_1 l0_1.length l0_1) (hc0_1 : l0_1.length ≤ c0_1) (hr1_1 : Kd.C (Kd.slice 3 (Kd.int .i64)) w A1_1 l1_1.length l1_1) (hc1_1 : l1_1.length ≤ c1_1) (h : permgroup_sub.f a0_0 l0_1 a1_0 l1_1 = some r) :
    Calls Tryz.prog 75 #[.agg #[.int .i64 a0_0, .slice A0_1 l0_1.length c0_1], .agg #[.int .i64 a1_0, .slice A1_1 l1_1.length c1_1]] w fun e w' => e = .returned (.bool r) ∧ Below w.heap.size w w' := by
  have hmf : ∀ (fn : Fn) (first cap : Array Value) (w : World), (Instr.makeFunc fn first cap).run Tryz.prog w = .ok (.func fn first cap) w := fun _ _ _ _ => rfl
  have hu := Tryz.underlying24
  unfold permgroup_sub.f at h
  have hr : 0 ≤ a1_0 ∧ a1_0 ≤ 20 := by
    by_cases hr : 0 ≤ a1_0 ∧ a1_0 ≤ 20
    · exact hr
    · rw [if_neg hr] at h; cases h
  rw [if_pos hr] at h
  obtain ⟨n, rfl⟩ : ∃ n : Nat, a1_0 = (n : Int) := ⟨a1_0.toNat, by omega⟩
  rw [Int.toNat_natCast] at h
  replace h := Option.bind_eq_some_iff.1 h
  obtain ⟨C, h2, h⟩ := h
  replace h := Option.bind_eq_some_iff.1 h
  obtain ⟨r0, h3, h⟩ := h
  obtain rfl := Option.some.inj h
  have A2 := Aside0.mk h2
  have A3 := Aside0.mk h3
  have HN : Aside0 (n ≤ 20) := ⟨by omega⟩
  have HG0 := Aside0.mk hr0_1
  have HC0 := Aside0.mk hc0_1
  have HG1 := Aside0.mk hr1_1
  have HC1 := Aside0.mk hc1_1
  clear h h2 h3 hr hr0_1 hc0_1 hr1_1 hc1_1
  go_enter Tryz.func75, Tryz.ntmps75
  go_wp2_with (first
    | (go_at_call 78; (refine (chain_any n HN.out l1_1 A1_1 c1_1 _ (Kd.C_below HG1.out bel0) HC1.out C A2.out).mono ?_); rintro e w2 ⟨c, la, capL, ρ, d, rfl, hCh, hb2⟩; have HCh := Aside0.mk hCh; have HB2 := Aside0.mk (below_step (w := w) bel0 hb2); have hzz : w.heap.size < w2.heap.size := (by have := hb2.size; simp at this; omega); have hcx := cell_move (w' := w2) (show ((w.alloc (.cells #[.int .i64 a0_0, .slice A0_1 l0_1.length c0_1] 24)).alloc (.cells #[.int .i64 (n : Int), .slice A1_1 l1_1.length c1_1] 24)).cell? ⟨w.heap.size, 1, none⟩ = some (.slice A0_1 l0_1.length c0_1) from by rw [World.cell?_alloc_past _ _ _ (by simp), World.cell?_alloc_at _ _ _ _ rfl]; rfl) (fun hlt => hb2.block _ hlt); clear hCh hb2)
    | (go_at_call 111; (refine (containsFunc_any C l0_1 r0 w _ ρ _ c capL w2.heap.size la d A0_1 c0_1 (HCh.out.below (below_alloc (Below.refl _ _) _)) HG0.out (below_alloc HB2.out _) (by simp; omega) (by rw [World.cell?_alloc_at _ _ _ _ rfl]; rfl) A3.out).mono ?_); rintro e w4 ⟨rfl, hb4⟩; have HB4 := Aside0.mk (below_step (below_alloc HB2.out _) hb4); clear hb4))
  go_ret
  exact ⟨rfl, HB4.out⟩
end Go.Proofs.YtmbldnoepjmhhaaGreat.Bs
end
