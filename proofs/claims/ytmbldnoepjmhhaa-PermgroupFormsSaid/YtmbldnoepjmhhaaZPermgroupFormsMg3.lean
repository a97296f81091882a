/- Texts of this claim put together (wip/tools/merge.py). -/
import Derived.Test.YtmbldnoepjmhhaaZPermgroupFormsMg0
import Derived.Test.YtmbldnoepjmhhaaZPermgroupFormsMg1
import Derived.Test.YtmbldnoepjmhhaaZPermgroupFormsMg2
import Derived.WalkKit
import Derived.KernelRfl
import Derived.Tactics
import Derived.Test.YtmbldnoepjmhhaaZPermgroupFormsPBsx0
import Derived.Test.YtmbldnoepjmhhaaZPermgroupFormsPBsx1
import Derived.Test.YtmbldnoepjmhhaaZPermgroupFormsPBsx2
set_option linter.unusedVariables false
set_option linter.unusedSimpArgs false
section
/- The walk of Elements and of its closures. -/
namespace Go.Proofs.Ytmbldnoepjmhhaa.Bs
open Go.RowKit Go.Sort Go.Shelf Go.Proofs.YtmbldnoepjmhhaaW.PrintWords Go.Proofs.YtmbldnoepjmhhaaW.PrintLast Go.Proofs.YtmbldnoepjmhhaaW.PrintMore Go.Proofs.Ytmbldnoepjmhhaa.Plain Go.Proofs.Ytmbldnoepjmhhaa.PBs
attribute [local go_sem] max2_int min2_int max_two min_two max_three min_three max_four min_four
def sortK_ren : Go.Shelf.Ren := ⟨fun | 6 => 129 | 15 => 145 | 14 => 146 | 28 => 162 | 29 => 163 | 20 => 164 | 21 => 165 | 22 => 166 | 23 => 167 | 24 => 168 | 25 => 169 | 26 => 170 | 27 => 171 | 46 => 180 | 47 => 175 | 48 => 176 | 49 => 181 | 50 => 182 | 57 => 184 | n => n, fun | 22 => 25 | 24 => 3 | 25 => 155 | 3 => 3 | 39 => 165 | 0 => 0 | 53 => 82 | 55 => 181 | 4 => 4 | 46 => 173 | 45 => 172 | 50 => 110 | 5 => 5 | 9 => 9 | 66 => 188 | 70 => 192 | 76 => 196 | 77 => 197 | n => n, fun | n => n⟩
theorem sortK : Go.Proofs.SlLaysF.n6 Try.prog sortK_ren := ⟨(by kernel_rfl),
  ⟨Try.f129.name, by decide, Try.func129.trans (congrArg some (by kernel_rfl))⟩,
  ⟨Try.f146.name, by decide, Try.func146.trans (congrArg some (by kernel_rfl))⟩,
  Try.func145.trans (congrArg some (by kernel_rfl)),
  ⟨Try.f164.name, by decide, Try.func164.trans (congrArg some (by kernel_rfl))⟩,
  ⟨Try.f165.name, by decide, Try.func165.trans (congrArg some (by kernel_rfl))⟩,
  ⟨Try.f166.name, by decide, Try.func166.trans (congrArg some (by kernel_rfl))⟩,
  ⟨Try.f167.name, by decide, Try.func167.trans (congrArg some (by kernel_rfl))⟩,
  ⟨Try.f168.name, by decide, Try.func168.trans (congrArg some (by kernel_rfl))⟩,
  ⟨Try.f169.name, by decide, Try.func169.trans (congrArg some (by kernel_rfl))⟩,
  ⟨Try.f170.name, by decide, Try.func170.trans (congrArg some (by kernel_rfl))⟩,
  ⟨Try.f171.name, by decide, Try.func171.trans (congrArg some (by kernel_rfl))⟩,
  Try.func162.trans (congrArg some (by kernel_rfl)),
  Try.func163.trans (congrArg some (by kernel_rfl)),
  ⟨Try.f180.name, by decide, Try.func180.trans (congrArg some (by kernel_rfl))⟩,
  Try.func175.trans (congrArg some (by kernel_rfl)),
  Try.func176.trans (congrArg some (by kernel_rfl)),
  ⟨Try.f181.name, by decide, Try.func181.trans (congrArg some (by kernel_rfl))⟩,
  ⟨Try.f182.name, by decide, Try.func182.trans (congrArg some (by kernel_rfl))⟩,
  ⟨Try.f184.name, by decide, Try.func184.trans (congrArg some (by kernel_rfl))⟩,
  Try.underlying0,
  Try.isAgg0,
  Try.sizeOf0,
  Try.zeroValue0,
  Try.underlying3,
  Try.isAgg3,
  Try.sizeOf3,
  Try.zeroValue3,
  Try.underlying4,
  Try.isAgg4,
  Try.sizeOf4,
  Try.zeroValue4,
  Try.underlying5,
  Try.isAgg5,
  Try.sizeOf5,
  Try.zeroValue5,
  Try.underlying9,
  Try.isAgg9,
  Try.sizeOf9,
  Try.zeroValue9,
  Try.underlying25,
  Try.isAgg25,
  Try.sizeOf25,
  Try.zeroValue25,
  Try.isAgg3,
  Try.sizeOf3,
  Try.underlying155,
  Try.isAgg155,
  Try.sizeOf155,
  Try.zeroValue155,
  Try.underlying165,
  Try.isAgg165,
  Try.sizeOf165,
  Try.zeroValue165,
  Try.underlying172,
  Try.isAgg172,
  Try.sizeOf172,
  Try.zeroValue172,
  Try.underlying173,
  Try.isAgg173,
  Try.sizeOf173,
  Try.zeroValue173,
  Try.underlying110,
  Try.isAgg110,
  Try.sizeOf110,
  Try.zeroValue110,
  Try.underlying82,
  Try.isAgg82,
  Try.sizeOf82,
  Try.zeroValue82,
  Try.underlying181,
  Try.isAgg181,
  Try.sizeOf181,
  Try.zeroValue181,
  Try.underlying188,
  Try.isAgg188,
  Try.sizeOf188,
  Try.zeroValue188,
  Try.underlying192,
  Try.isAgg192,
  Try.sizeOf192,
  Try.zeroValue192,
  Try.underlying196,
  Try.isAgg196,
  Try.sizeOf196,
  Try.zeroValue196,
  Try.underlying197,
  Try.isAgg197,
  Try.sizeOf197,
  Try.zeroValue197⟩
theorem goodKeys_at {u l : List Int} (h : goodKeys u l = true) : 0 < l.length ∧ l.length < 1000 ∧ (∀ x ∈ l, 0 ≤ x ∧ x < (u.length : Int) ∧ 0 ≤ rd u x ∧ rd u x < 1000) ∧ ∀ x ∈ l, ∀ y ∈ l, rd u x = rd u y → x = y := by
  unfold goodKeys at h
  simp only [Bool.and_eq_true, decide_eq_true_eq, List.all_eq_true] at h
  obtain ⟨⟨⟨h1, h2⟩, h3⟩, h4⟩ := h
  exact ⟨h1, h2, fun x hx => by have := h3 x hx; omega, fun x hx y hy => h4 x hx y hy⟩
set_option maxHeartbeats 2000000 in
theorem cmp_any (u : List Int) (vu : Value) (b : Nat) (x y : Int) (W : World) (hu : W.cell? ⟨b, 0, none⟩ = some vu) (hp : PermAt W vu u) (hx : 0 ≤ x ∧ x < (u.length : Int) ∧ 0 ≤ rd u x ∧ rd u x < 1000) (hy : 0 ≤ y ∧ y < (u.length : Int) ∧ 0 ≤ rd u y ∧ rd u y < 1000) :
    Calls Try.prog 142 #[.int .i64 x, .int .i64 y, .pointer (some ⟨b, 0, none⟩)] W fun e w' => e = .returned (.int .i64 (rd u x - rd u y)) ∧ ∃ q, w' = W.drewN q := by
  obtain ⟨A, c, rfl, hc, hC⟩ := hp
  obtain ⟨ad, e1, hcx⟩ := Kd.at_int hC x hx.1 hx.2.1
  subst e1
  obtain ⟨ad', e2, hcy⟩ := Kd.at_int hC y hy.1 hy.2.1
  injection e2 with e2
  subst e2
  have t1 : (0 ≤ x) = True := eq_true hx.1
  have t2 : (x < (u.length : Int)) = True := eq_true hx.2.1
  have t3 : (0 ≤ y) = True := eq_true hy.1
  have t4 : (y < (u.length : Int)) = True := eq_true hy.2.1
  have tw : wrap64 (rd u x - rd u y) = rd u x - rd u y := w64_small (by omega) (by omega)
  have tw2 : IntKind.i64.wrap (rd u x - rd u y) = rd u x - rd u y := IntWalk.i64_in _ (by omega)
  clear hx hy hC
  go_enter Try.func142, Try.ntmps142
  go_wp2
  repeat (go_quiet (fail); try go_wp2)
  go_ret
  exact ⟨by first | rfl | rw [tw] | rw [tw2], _, rfl⟩
theorem sort_any {u l : List Int} {vu : Value} {b : Nat} {A : Option Addr} {c base : Nat} {ok : Nat → Prop} {w W : World} (h : Kd.R (Kd.int .i64) 3 W base ok (.slice A l.length c) l) (hbase : w.heap.size ≤ base) (HB : Below w.heap.size w W) (hg : goodKeys u l = true)
    (hst : ∀ W' : World, (∀ k, k < W.heap.size → some k ≠ (Value.slice A l.length c).ownBlock → W'.heap[k]? = W.heap[k]?) → W'.cell? ⟨b, 0, none⟩ = some vu ∧ PermAt W' vu u) :
    Calls Try.prog 129 #[.slice A l.length c, .func (.func 142) #[] #[.pointer (some ⟨b, 0, none⟩)]] W fun e w' => e = .returned (.tuple #[]) ∧ Kd.R (Kd.int .i64) 3 w' base ok (.slice A l.length c) (sortKey (rd u) l) ∧ Below w.heap.size w w' ∧ ∀ k, k < W.heap.size → some k ≠ (Value.slice A l.length c).ownBlock → w'.heap[k]? = W.heap[k]? := by
  obtain ⟨h1, h2, h3, h4⟩ := goodKeys_at hg
  exact sortKey_row sortK 142 #[.pointer (some ⟨b, 0, none⟩)] (enters_of Try.func142 (by kernel_rfl) rfl) (rd u) h hbase HB h1 (by omega) h4
    (fun W' hW' x hx y hy => cmp_any u vu b x y W' (hst W' hW').1 (hst W' hW').2 (h3 x hx) (h3 y hy))
theorem hst3 {u l : List Int} {vu : Value} {w w3 : World} {base : Nat} {ok : Nat → Prop} {A3 : Option Addr} {c3 t : Nat} (HU : Kd.R (Kd.int .i64) 3 w base ok vu u) (HB3 : Below (w.alloc (.cells #[vu] t)).heap.size (w.alloc (.cells #[vu] t)) w3)
    (HR3 : Kd.R (Kd.int .i64) 3 w3 (w.alloc (.cells #[vu] t)).heap.size (fun _ => True) (.slice A3 l.length c3) l) (W' : World)
    (h : ∀ k, k < w3.heap.size → some k ≠ (Value.slice A3 l.length c3).ownBlock → W'.heap[k]? = w3.heap[k]?) : W'.cell? ⟨w.heap.size, 0, none⟩ = some vu ∧ PermAt W' vu u := by
  have hsz : (w.alloc (.cells #[vu] t)).heap.size = w.heap.size + 1 := by simp
  have hb3 : ∀ b, (Value.slice A3 l.length c3).ownBlock = some b → w.heap.size + 1 ≤ b := fun b hb => by have := Kd.R_base HR3 b hb; omega
  have hs3 := HB3.size
  have old : ∀ b, b ≤ w.heap.size → W'.heap[b]? = (w.alloc (.cells #[vu] t)).heap[b]? := fun b hb =>
    (h b (by omega) (fun e => by have := hb3 b e.symm; omega)).trans (HB3.block b (by omega))
  refine ⟨cell_move (w := w.alloc (.cells #[vu] t)) (by rw [World.cell?_alloc_at _ _ _ _ rfl]; rfl) (fun _ => old _ (Nat.le_refl _)), ?_⟩
  exact PermAt.of_R (Kd.R_step HU (fun b _ hlt => (old b (by omega)).trans (Below.heap_alloc _ _ _ hlt)))
theorem fresh_role {W0 w : World} {c bC bo bM : Nat} {σ : Nat → Nat} {vout : Value} {outs : List (List Int)} (h : ElSt W0 c bC bo bM σ w vout outs) {b : Nat} (hb : w.heap.size ≤ b) : σ b = 0 ∧ b ≠ bC ∧ b ≠ bM := by
  have h1 : bC < w.heap.size := World.block_lt_of_cell? w ⟨bC, 0, none⟩ h.cC
  have h2 : bM < w.heap.size := World.block_lt_of_cell? w ⟨bM, 0, none⟩ h.cM
  exact ⟨h.fresh b hb, by omega, by omega⟩
def Mored (W0 : World) (c bC bo bM : Nat) (vu : Value) (σ : Nat → Nat) (w : World) (outs' : List (List Int)) (e : Ending) (w' : World) : Prop :=
  e = .returned (.tuple #[]) ∧ ∃ σ' vout', ElSt W0 c bC bo bM σ' w' vout' outs' ∧ Kp vu σ σ' w w'
set_option maxHeartbeats 16000000 in
set_option maxRecDepth 100000 in
theorem more_any {ρ : Nat → Nat} {W0 : World} {base c capL : Nat} {la : Option Addr} {C : Ch} {d : Nat → LD} (hR : ChainAt ρ W0 base c la capL C d) (bC bo bM : Nat) :
    ∀ (q k : Nat) (u : List Int) (vu : Value) (outs outs' : List (List Int)) (w : World) (σ : Nat → Nat) (vout : Value), ElSt W0 c bC bo bM σ w vout outs → k ≤ C.n → Kd.R (Kd.int .i64) 3 w W0.heap.size (fun b => σ b = 0 ∧ b ≠ bC ∧ b ≠ bM) vu u → more q C k u outs = some outs' →
      Calls Try.prog 141 #[.int .i64 (k : Int), vu, .pointer (some ⟨bC, 0, none⟩), .pointer (some ⟨bo, 0, none⟩), .pointer (some ⟨bM, 0, none⟩)] w (Mored W0 c bC bo bM vu σ w outs') := by
  have HR := Aside0.mk hR
  have hsm := hR.small
  clear hR
  have hmf : ∀ (fn : Fn) (first cap : Array Value) (w : World), (Instr.makeFunc fn first cap).run Try.prog w = .ok (.func fn first cap) w := fun _ _ _ _ => rfl
  intro q
  induction q with
  | zero => intro k u vu outs outs' w σ vout _ _ _ h; cases h
  | succ q ih =>
    intro k u vu outs outs' w σ vout hE hk hu h
    have IH := Aside0.mk ih
    clear ih
    have HE := Aside0.mk hE
    have HU := Aside0.mk hu
    have hcC := hE.cC
    have hcO := hE.cO
    have hfO := hE.fO
    have hn := (HR.out.below hE.bel).hn
    have hl := (HR.out.below hE.bel).hl
    have hlcap := HR.out.hcap
    have hClt : bC < w.heap.size := World.block_lt_of_cell? w ⟨bC, 0, none⟩ hcC
    have hOlt : bo < w.heap.size := World.block_lt_of_cell? w ⟨bo, 0, none⟩ hcO
    have hclt : c < w.heap.size := World.block_lt_of_cell? w ⟨c, 0, none⟩ hn
    obtain ⟨Au, cu, eu⟩ := Kd.R_slice hu
    subst eu
    rw [more] at h
    by_cases hkn : k = C.n
    · rw [if_pos hkn] at h
      by_cases hlen : outs.length < 100000
      · rw [if_pos hlen] at h
        obtain rfl := Option.some.inj h
        have HLEN := Aside0.mk hlen
        have t1 : ((k : Int) == (C.n : Int)) = true := by rw [beq_iff_eq]; omega
        have t2 : (k == C.n) = true := by rw [beq_iff_eq]; exact hkn
        have t3 : (k = C.n) = True := eq_true hkn
        clear h hlen hE hu hk hsm hkn
        go_enter Try.func141, Try.ntmps141
        have HWB := Aside0.mk (below_alloc (Below.refl w.heap.size w) (.cells #[.slice Au u.length cu] 49))
        have HE2 := Aside0.mk (HE.out.below HWB.out)
        have hU0 : ∀ b, (Value.slice Au u.length cu).ownBlock = some b → σ b = 0 ∧ b < (w.alloc (.cells #[.slice Au u.length cu] 49)).heap.size ∧ b ≠ bC ∧ b ≠ bM ∧ W0.heap.size ≤ b := fun b hb => ⟨(HU.out.1 b hb).1, Nat.lt_of_lt_of_le (Kd.R_lt HU.out b hb) HWB.out.size, (HU.out.1 b hb).2.1, (HU.out.1 b hb).2.2, Kd.R_base HU.out b hb⟩
        have HU0 := Aside0.mk hU0
        have HUA := Aside0.mk (Kd.R_below HU.out HWB.out)
        have HNV := Aside0.mk (show some bo ≠ vout.ownBlock from fun e => by have h1 := HE.out.ro _ e.symm; rw [HE.out.bO] at h1; cases h1)
        clear hU0
        go_wp2_with ((with_reducible refine gate_builtin (b := .append) (xs := #[.tmp 17, .tmp 19]) rfl ?_); at_builtin; refine Kd.S_append (Kd.slice 3 (Kd.int .i64)) (w0 := W0) (W := w.alloc (.cells #[.slice Au u.length cu] 49)) W0.heap.size rfl (.tmp 17) (.tmp 19) 35 49 (.slice none 0 0) 24 rfl Try.underlying35 perm_info rfl (by decide) (by omega) vout outs u [.slice Au u.length cu] (fun b => σ b = 1 ∨ σ b = 2 ∨ some b = (Value.slice Au u.length cu).ownBlock ∨ (w.alloc (.cells #[.slice Au u.length cu] 49)).heap.size ≤ b) (fun b => some b = (Value.slice Au u.length cu).ownBlock) rfl ?aX ?aP ?aK ?aF ?aO ?aB ?aS ?aL ?_; (case aX => show Value.slice (some ⟨w.heap.size + 1, 0, none⟩) 1 1 = _; simp); (case aP => exact ⟨_, rfl, Kd.R_tight rfl HUA.out⟩); (case aK => exact fun b hb => ⟨.inr (.inr (.inl hb)), fun e => by have h1 := HE.out.ro b e.symm; have h2 := (HU0.out b hb.symm).1; omega⟩); (case aF => exact fun b hb => .inr (.inr (.inr hb))); (case aO => exact Kd.S_mono HE2.out.row (fun b hb => ⟨hb.elim .inl (fun h => .inr (.inl h)), fun e => by have h2 := (HU0.out b e.symm).1; omega⟩)); (case aB => exact HE2.out.bel); (case aS => exact HE2.out.bel.size); (case aL => have := HLEN.out; omega); intro v1 w1 ho hb hg hat; obtain ⟨Ao1, co1, eo1⟩ := Kd.R_slice (Kd.S_R ho); subst eo1; obtain ⟨σ', E', K'⟩ := HE2.out.push HU0.out ho hb hg hat; have hcO1 := cell_move hcO (fun hlt => (hg.block bo (Nat.lt_of_lt_of_le hlt HWB.out.size) HNV.out).trans (HWB.out.block bo hlt)); have hfO1 := ((World.frozen?_of_block (w := w) (w' := w1) (a := ⟨bo, 0, none⟩) ((hg.block bo (Nat.lt_of_lt_of_le hOlt HWB.out.size) HNV.out).trans (HWB.out.block bo hOlt)))).trans hfO; have el : (outs ++ [u]).length = outs.length + 1 := (by simp); rw [el] at E' K'; have HE3 := Aside0.mk E'; have HK3 := Aside0.mk (K'.pre HWB.out); clear ho hg hat hb E' K' el)
        go_end0
        exact ⟨rfl, σ', _, HE3.out, HK3.out⟩
      · rw [if_neg hlen] at h; cases h
    · rw [if_neg hkn] at h
      replace h := Option.bind_eq_some_iff.1 h
      obtain ⟨L, hL, h⟩ := h
      have HGK : Aside0 (goodKeys u L.orbit = true) := by
        by_cases e : goodKeys u L.orbit = true
        · exact ⟨e⟩
        · rw [if_neg e] at h; cases h
      rw [if_pos HGK.out] at h
      have H := Aside0.mk h
      have hkl : k < C.n := by omega
      have HKL := Aside0.mk hkl
      obtain ⟨bls, ela, rls, hcl⟩ := (HR.out.below hE.bel).ls (by omega)
      subst ela
      have hlev := hcl k hkl
      have hblt : bls < w.heap.size := World.block_lt_of_cell? w ⟨bls, k, none⟩ hlev
      have LV := (HR.out.below hE.bel).lv k L hL
      have hvo := LV.c1
      have hdlt : (d k).bl < w.heap.size := LV.blt
      have t1 : ((k : Int) == (C.n : Int)) = false := by rw [beq_eq_false_iff_ne]; omega
      have t2 : (k == C.n) = false := by rw [beq_eq_false_iff_ne]; exact hkn
      have t3 : (k = C.n) = False := eq_false hkn
      have t4 : ((k : Int) < (C.n : Int)) = True := eq_true (by omega)
      have t5 : (0 ≤ (k : Int)) = True := eq_true (by omega)
      have t6 : (k < C.n) = True := eq_true hkl
      have HL := Aside0.mk hL
      have HWB := Aside0.mk (below_alloc (Below.refl w.heap.size w) (.cells #[.slice Au u.length cu] 49))
      have HVO := Aside0.mk (LV.move (w' := w.alloc (.cells #[.slice Au u.length cu] 49)) (fun _ _ => rfl) (fun b hlt _ => HWB.out.block b hlt)).orb_at
      have hwlt : w.heap.size < (w.alloc (.cells #[.slice Au u.length cu] 49)).heap.size := by simp
      have HWLT := Aside0.mk hwlt
      have HSMM := Aside0.mk hsm
      clear h hE hu hk hsm hkn hkl hcl rls LV hL hwlt
      go_enter Try.func141, Try.ntmps141
      go_wp2_with (first
        | (go_at_call 122; (refine (clone_any HVO.out (by have := (goodKeys_at HGK.out).2.1; omega)).mono ?_); rintro e w3 ⟨v3, rfl, hr3, hb3⟩; have HR3 := Aside0.mk hr3; have HB3 := Aside0.mk hb3; obtain ⟨A3, c3, rfl⟩ := Kd.R_slice hr3; clear hr3 hb3))
      have HST := Aside0.mk (hst3 HU.out HB3.out HR3.out)
      go_wp2_with (first
        | (go_at_call 129; (refine (sort_any (u := u) (vu := .slice Au u.length cu) (b := w.heap.size) (w := w) (ok := fun _ => True) (base := (w.alloc (.cells #[.slice Au u.length cu] 49)).heap.size) HR3.out (Nat.le_of_lt HWLT.out) (below_then HWB.out HWB.out.size HB3.out) HGK.out ?hst).mono ?_); (case hst => exact HST.out); rintro e w4 ⟨rfl, hr4, hb4, hk4⟩; have HR4 := Aside0.mk hr4; have HB4 := Aside0.mk hb4; have HK4 := Aside0.mk hk4; clear hr4 hb4 hk4))
      have hst := HST.out w4 HK4.out
      clear HST
      have HBox := Aside0.mk hst.1
      have HE4 := Aside0.mk (HE.out.below HB4.out)
      have HIm : Aside0 (Kd.R (Kd.int .i64) 3 w4 W0.heap.size (fun b => σ b = 0 ∧ b ≠ bC ∧ b ≠ bM) (.slice A3 L.orbit.length c3) (sortKey (rd u) L.orbit)) := ⟨by
        have h1 := Kd.R_bound HR4.out
        refine Kd.R_lower (Kd.R_mono h1 (fun b hb => ?_)) (Nat.le_trans HE.out.bel.size (Nat.le_of_lt HWLT.out))
        have h2 : w.heap.size ≤ b := Nat.le_trans (Nat.le_of_lt HWLT.out) hb.2.1
        have h3 := World.block_lt_of_cell? w ⟨bM, 0, none⟩ HE.out.cM
        have h4 : bM < w.heap.size := h3
        exact ⟨HE.out.fresh b h2, by omega, by omega⟩⟩
      have HU4 := Aside0.mk (Kd.R_below HU.out HB4.out)
      have HQ4 := Aside0.mk (Kq.of_below (σ := σ) HB4.out)
      have hsl : (sortKey (rd u) L.orbit).length = L.orbit.length := (sortKey_perm _ _).length_eq
      have HSL := Aside0.mk hsl
      have HBX0 : Aside0 (σ w.heap.size = 0) := ⟨HE.out.fresh _ (Nat.le_refl _)⟩
      clear hst hsl hcC hcO hfO hn hl hlev hvo hblt hdlt HVO HR3 HB3 HR4 HB4 HK4 hClt hOlt hclt
      go_loopg [39] L.orbit.length (fun kq v39 w' => ∃ (j : Nat) (σ_ : Nat → Nat) (vout_ : Value) (outs_ : List (List Int)), v39 = .int .i64 (j : Int) ∧ Aside0 (ElSt W0 c bC bo bM σ_ w' vout_ outs_) ∧ Aside0 (Kq σ σ_ w w') ∧ Aside0 (Kd.R (Kd.int .i64) 3 w' W0.heap.size (fun b => σ_ b = 0 ∧ b ≠ bC ∧ b ≠ bM) (.slice A3 L.orbit.length c3) (sortKey (rd u) L.orbit)) ∧ Aside0 (Kd.R (Kd.int .i64) 3 w' W0.heap.size (fun b => σ_ b = 0 ∧ b ≠ bC ∧ b ≠ bM) (.slice Au u.length cu) u) ∧ Aside0 (w'.cell? ⟨w.heap.size, 0, none⟩ = some (.slice Au u.length cu)) ∧ Aside0 (σ_ w.heap.size = 0) ∧ Aside0 (eachM (fun out x => (C.word k x).bind fun o => o.bind fun w => (mulO w u).bind fun u' => more q C (k + 1) u' out) ((sortKey (rd u) L.orbit).drop j) outs_ = some outs') ∧ Aside0 (j + kq = L.orbit.length))
      case atStart => exact ⟨0, σ, vout, outs, (by first | rfl | (simp; done)), HE4, HQ4, HIm, HU4, HBox, HBX0, H, ⟨by omega⟩⟩
      case round =>
        clear HE4 HQ4 HIm HU4 HBox HBX0 H HE HU
        obtain ⟨j, σ_, vout_, outs_, rfl, HE_, HQ_, HIm, HU, HBox, HBX, HA, HJ⟩ := hrel
        have h := HA.out
        clear HA
        cases gk with
        | zero =>
          have hj : (j < L.orbit.length) = False := eq_false (by have := HJ.out; omega)
          rw [List.drop_eq_nil_of_le (by have := HJ.out; have := HSL.out; omega)] at h
          obtain rfl := Option.some.inj h
          clear h
          go_wp2
          go_end0
          exact ⟨rfl, σ_, vout_, HE_.out, HQ_.out.kp _⟩
        | succ m1 =>
          have hjl : j < L.orbit.length := by have := HJ.out; omega
          have hj : (j < L.orbit.length) = True := eq_true hjl
          have hj2 : ((j : Int) < (L.orbit.length : Int)) = True := eq_true (by omega)
          have hj0 : (0 ≤ (j : Int)) = True := eq_true (by omega)
          have HJ2 : Aside0 (j + 1 + m1 = L.orbit.length) := ⟨by have := HJ.out; omega⟩
          have hjs : j < (sortKey (rd u) L.orbit).length := by have := HSL.out; omega
          rw [List.drop_eq_getElem_cons hjs, eachM] at h
          obtain ⟨A3', c3', e3, hc3, hC3⟩ := Kd.R_reads HIm.out
          injection e3 with e3a e3b e3c
          subst e3a; subst e3c
          clear e3b
          obtain ⟨ad3, e3, hcell3⟩ := Kd.at_int hC3 (j : Int) (by omega) (by omega)
          subst e3
          rw [rd_get _ _ hjs, Int.toNat_natCast] at hcell3
          replace h := Option.bind_eq_some_iff.1 h
          obtain ⟨outs2, h1, h⟩ := h
          replace h1 := Option.bind_eq_some_iff.1 h1
          obtain ⟨o, hw, h1⟩ := h1
          replace h1 := Option.bind_eq_some_iff.1 h1
          obtain ⟨wd, ho, h1⟩ := h1
          subst ho
          replace h1 := Option.bind_eq_some_iff.1 h1
          obtain ⟨u', h1, h2⟩ := h1
          obtain ⟨x0, L_, hL_, ho⟩ := word_some hw
          have R := HR.out.below HE_.out.bel
          have LV_ := R.lv k L_ hL_
          obtain ⟨X, hX⟩ : ∃ X : Nat, (sortKey (rd u) L.orbit)[j] = (X : Int) := ⟨(sortKey (rd u) L.orbit)[j].toNat, by omega⟩
          rw [hX] at ho hcell3
          rw [Int.toNat_natCast] at ho
          obtain ⟨hxn, wv, hv, _, hwd⟩ := LV_.word ho
          obtain ⟨aw, cw, ew, hcw, hCw⟩ := hwd.1.addr hwd.2
          rw [ew] at hv
          have hrow := LV_.c2
          have hcM := HE_.out.cM
          have hbox := HBox.out
          have t7 : ((X : Int) < (C.n : Int)) = True := eq_true (by omega)
          have t8 : (0 ≤ (X : Int)) = True := eq_true (by omega)
          have A1' := Aside0.mk h1
          have A2' := Aside0.mk h2
          have H := Aside0.mk h
          have wi : wrap64 ((j : Int) + 1) = ((j + 1 : Nat) : Int) := (IntWalk.wrap64_in _ ⟨by omega, by have := (goodKeys_at HGK.out).2.1; omega⟩).trans (by omega)
          have wk : IntKind.i64.wrap ((k : Int) + 1) = ((k + 1 : Nat) : Int) := (IntWalk.i64_in _ (by have := HKL.out; have := HSMM.out; omega)).trans (by omega)
          have wk2 : wrap64 ((k : Int) + 1) = ((k + 1 : Nat) : Int) := (IntWalk.wrap64_in _ ⟨by omega, by have := HKL.out; have := HSMM.out; omega⟩).trans (by omega)
          clear h h1 h2 hwd ho hX hL_ LV_ hw ew hC3 hc3 R
          go_upto_region 9 with fail
          go_region_with (first
            | (go_at_call 131; (refine (mul_any A1'.out ⟨_, _, rfl, hcw, ?s1⟩ (PermAt.below (w := wr) (PermAt.of_R HU.out) bel0)).mono ?_); (case s1 => exact hCw); rintro e w6 ⟨v6, rfl, hr6, hb6⟩; have HR6 := Aside0.mk hr6; have HB6 := Aside0.mk (below_step (w := wr) bel0 hb6); obtain ⟨A6, c6, rfl⟩ := Kd.R_slice hr6; have hcM6 := cell_move hcM (fun hlt => HB6.out.block _ hlt); clear hr6 hb6)
            | (go_at_call 141; rw [show ((k : Int) + 1) = ((k + 1 : Nat) : Int) from rfl]; (refine (IH.out (k + 1) u' _ outs_ outs2 w6 σ_ vout_ (HE_.out.below HB6.out) HKL.out (Kd.R_lower (Kd.R_mono (Kd.R_bound HR6.out) (fun b hb => fresh_role HE_.out hb.2.1)) HE_.out.bel.size) A2'.out).mono ?_); rintro e w8 ⟨rfl, σ2, vout2, hE2, hK2⟩; have HE2 := Aside0.mk hE2; have HQ2 := Aside0.mk (hK2.quiet HB6.out (fun b hb => Kd.R_base HR6.out b hb)); clear hE2 hK2))
          all_goals
            have HIm2 := Aside0.mk (HQ2.out.row HIm.out)
            have HU2 := Aside0.mk (HQ2.out.row HU.out)
            have HBox2 := Aside0.mk (HQ2.out.cell HBX.out hbox)
            have HQ3 := Aside0.mk (HQ_.out.trans HQ2.out)
            have HBX2 : Aside0 (σ2 w.heap.size = 0) := ⟨(HQ2.out.role _ (World.block_lt_of_cell? wr ⟨w.heap.size, 0, none⟩ hbox)).trans HBX.out⟩
            go_wp2
            go_roundg m1
            case measure => exact Nat.lt_succ_self _
            case rel => exact ⟨j + 1, σ2, vout2, outs2, (by first | rfl | (rw [wi]; done) | (simp [wi]; done)), HE2, HQ3, HIm2, HU2, HBox2, HBX2, H, HJ2⟩
end Go.Proofs.Ytmbldnoepjmhhaa.Bs
end
section
/- The walk of (*Chain).Elements. -/
namespace Go.Proofs.Ytmbldnoepjmhhaa.Bs
open Go.RowKit Go.Sort Go.Shelf Go.Proofs.YtmbldnoepjmhhaaW.PrintWords Go.Proofs.YtmbldnoepjmhhaaW.PrintLast Go.Proofs.YtmbldnoepjmhhaaW.PrintMore Go.Proofs.Ytmbldnoepjmhhaa.Plain Go.Proofs.Ytmbldnoepjmhhaa.PBs
attribute [local go_sem] max2_int min2_int max_two min_two max_three min_three max_four min_four
def Perms (w0 w' : World) (e : Ending) (E : List (List Int)) : Prop := ∃ v, e = .returned v ∧ Kd.S (Kd.slice 3 (Kd.int .i64)) 49 w' w0.heap.size (fun _ => True) v E ∧ Below w0.heap.size w0 w'
set_option maxHeartbeats 16000000 in
set_option maxRecDepth 100000 in
theorem elements_any {ρ : Nat → Nat} {w : World} {base c capL : Nat} {la : Option Addr} {C : Ch} {d : Nat → LD} {E : List (List Int)} (hR : ChainAt ρ w base c la capL C d) (h : elements C = some E) :
    Calls Try.prog 120 #[.pointer (some ⟨c, 0, none⟩)] w (fun e w' => Perms w w' e E) := by
  have hmf : ∀ (fn : Fn) (first cap : Array Value) (w : World), (Instr.makeFunc fn first cap).run Try.prog w = .ok (.func fn first cap) w := fun _ _ _ _ => rfl
  have hsf : ∀ (a : Addr) (fn : Fn) (first captured : Array Value) (m : Mode) (w : World), (store a (.func fn first captured) m).run Try.prog w = stored Try.prog w a (.func fn first captured) m := fun a fn f c m w => run_store Try.prog w a _ m rfl
  have HR := Aside0.mk hR
  have hn := hR.hn
  have hclt : c < w.heap.size := World.block_lt_of_cell? w ⟨c, 0, none⟩ hn
  have hclt1 : c < w.heap.size + 1 := by omega
  have hclt2 : c < w.heap.size + 1 + 1 := by omega
  have H := Aside0.mk h
  clear hR h
  go_enter Try.func120, Try.ntmps120
  go_upto_region 4 with fail
  have hE0 : ElSt w c w.heap.size (w.heap.size + 1) (w.heap.size + 1 + 1) (fun b => if b = w.heap.size + 1 then 3 else 0) (((w.alloc (.cells #[.pointer (some ⟨c, 0, none⟩)] 112)).alloc (.cells #[.slice none 0 0] 35)).alloc (.cells #[.func (.func 141) #[] #[.pointer (some ⟨w.heap.size, 0, none⟩), .pointer (some ⟨w.heap.size + 1, 0, none⟩), .pointer (some ⟨w.heap.size + 1 + 1, 0, none⟩)]] 161)) (.slice none 0 0) [] := {
    bel := below_alloc (below_alloc (below_alloc (Below.refl _ _) _) _) _
    fresh := fun b hb => if_neg (by simp at hb; omega)
    old := fun b hb => if_neg (by omega)
    bO := if_pos rfl
    cO := by rw [World.cell?_alloc_past _ _ _ (by simp), World.cell?_alloc_at _ _ _ _ (by simp)]; rfl
    fO := by rw [World.frozen?_alloc_past _ _ _ (by simp), World.frozen?_alloc_at _ _ _ _ (by simp)]
    bC0 := if_neg (by omega)
    cC := by rw [World.cell?_alloc_past _ _ _ (by simp; omega), World.cell?_alloc_past _ _ _ (by simp), World.cell?_alloc_at _ _ _ _ rfl]; rfl
    bM0 := if_neg (by omega)
    cM := by rw [World.cell?_alloc_at _ _ _ _ (by simp)]; rfl
    ro := fun b hb => by simp [Value.ownBlock] at hb
    row := Kd.S_nil _ _ _ _ _ }
  have HE0 := Aside0.mk hE0
  have HSM := Aside0.mk HR.out.small
  clear hE0
  go_cut [] (fun wx => ∃ (σ2 : Nat → Nat) (vout2 : Value), Aside0 (ElSt w c w.heap.size (w.heap.size + 1) (w.heap.size + 1 + 1) σ2 wx vout2 E))
  case first =>
    go_region_with (first
      | (go_at_call 102; (refine (id_any C.n (by have := HSM.out; omega) _).mono ?_); rintro e w6 ⟨v6, rfl, hr6, hb6⟩; have HR6 := Aside0.mk hr6; have HB6 := Aside0.mk (below_step (w := (((w.alloc (.cells #[.pointer (some ⟨c, 0, none⟩)] 112)).alloc (.cells #[.slice none 0 0] 35)).alloc (.cells #[.func (.func 141) #[] #[.pointer (some ⟨w.heap.size, 0, none⟩), .pointer (some ⟨w.heap.size + 1, 0, none⟩), .pointer (some ⟨w.heap.size + 1 + 1, 0, none⟩)]] 161))) bel0 hb6); obtain ⟨A6, c6, rfl⟩ := Kd.R_slice hr6; have HE6 := Aside0.mk (HE0.out.below HB6.out); have hcM6 := HE6.out.cM; have hcC6 := HE6.out.cC; have hn6 := (HR.out.below HE6.out.bel).hn; clear hr6 hb6)
      | (go_at_call 141; (refine (more_any HR.out w.heap.size (w.heap.size + 1) (w.heap.size + 1 + 1) 30 0 (idL C.n) _ [] E w6 _ _ HE6.out (Nat.zero_le _) (Kd.R_lower (Kd.R_mono (Kd.R_bound HR6.out) (fun b hb => fresh_role HE0.out hb.2.1)) HE0.out.bel.size) H.out).mono ?_); rintro e w8 ⟨rfl, σ2, vout2, hE2, hK2⟩; have HE2 := Aside0.mk hE2; clear hE2 hK2))
    all_goals
      go_wp2_with fail
      go_meet
      exact ⟨σ2, vout2, HE2⟩
  case rest =>
    obtain ⟨σ2, vout2, HE2⟩ := hcut
    have hcO := HE2.out.cO
    obtain ⟨A2, c2, e2⟩ := Kd.R_slice (Kd.S_R HE2.out.row)
    subst e2
    go_wp2
    go_ret
    exact ⟨_, rfl, Kd.S_mono HE2.out.row (fun _ _ => trivial), HE2.out.bel⟩
end Go.Proofs.Ytmbldnoepjmhhaa.Bs
end
section
/- The walk of Reduced. -/
namespace Go.Proofs.Ytmbldnoepjmhhaa.Bs
open Go.RowKit Go.Sort Go.Shelf Go.Proofs.YtmbldnoepjmhhaaW.PrintWords Go.Proofs.YtmbldnoepjmhhaaW.PrintLast Go.Proofs.YtmbldnoepjmhhaaW.PrintMore Go.Proofs.Ytmbldnoepjmhhaa.Plain Go.Proofs.Ytmbldnoepjmhhaa.PBs
attribute [local go_sem] max2_int min2_int max_two min_two max_three min_three max_four min_four
structure RedAt (W0 : World) (svs : List Sv) (all : List (List Int)) (ρ : Nat → Nat) (w : World) (c capL : Nat) (la : Option Addr) (C : Ch) (d : Nat → LD) (vo : Value) (outs : List (List Int)) (idx : List Nat) : Prop where
  ch : ChainAt ρ w W0.heap.size c la capL C d
  bel : Below W0.heap.size W0 w
  row : Kd.R kv 49 w W0.heap.size (fun b => ρ b = 2000) vo (idx.map fun i => svs.getD i (none, 0, 0))
  outs_ : outs = idx.map fun i => all.getD i []
  asc : idx.Pairwise (· < ·)
theorem RedAt.below {W0 : World} {svs : List Sv} {all : List (List Int)} {ρ : Nat → Nat} {w w' : World} {c capL : Nat} {la : Option Addr} {C : Ch} {d : Nat → LD} {vo : Value} {outs : List (List Int)} {idx : List Nat} (h : RedAt W0 svs all ρ w c capL la C d vo outs idx) (hb : Below w.heap.size w w') : RedAt W0 svs all ρ w' c capL la C d vo outs idx :=
  ⟨h.ch.below hb, below_then h.bel h.bel.size hb, Kd.R_below h.row hb, h.outs_, h.asc⟩
theorem RedAt.grew {W0 : World} {svs : List Sv} {all : List (List Int)} {ρ ρ' : Nat → Nat} {w w' : World} {c capL : Nat} {la : Option Addr} {C C' : Ch} {d d' : Nat → LD} {vo : Value} {outs : List (List Int)} {idx : List Nat} (h : RedAt W0 svs all ρ w c capL la C d vo outs idx)
    (hC : ChainAt ρ' w' W0.heap.size c la capL C' d') (hS : Step W0.heap.size ρ ρ' w w') : RedAt W0 svs all ρ' w' c capL la C' d' vo outs idx :=
  ⟨hC, h.bel.trans hS.bel, Kd.R_mono (Kd.R_step (Kd.R_bound h.row) (fun b hb hlt => hS.keep b hlt (.inr (by have := hb.1; omega)))) (fun b hb => (hS.role b hb.2.2.1).trans hb.1), h.outs_, h.asc⟩
theorem RedAt.push {W0 : World} {svs : List Sv} {all : List (List Int)} {ρ : Nat → Nat} {w w1 : World} {c capL : Nat} {la : Option Addr} {C : Ch} {d : Nat → LD} {vo v1 : Value} {outs : List (List Int)} {idx : List Nat} (h : RedAt W0 svs all ρ w c capL la C d vo outs idx) {i : Nat} (hi : ∀ j ∈ idx, j < i)
    (hR : Kd.R kv 49 w1 W0.heap.size (fun b => ρ b = 2000 ∨ w.heap.size ≤ b) v1 ((idx.map fun i => svs.getD i (none, 0, 0)) ++ [svs.getD i (none, 0, 0)])) (hb : Below W0.heap.size W0 w1) (hg : w.grownBy w1 vo.ownBlock) :
    ∃ ρ', RedAt W0 svs all ρ' w1 c capL la C d v1 (outs ++ [all.getD i []]) (idx ++ [i]) := by
  have hvo : ∀ b, vo.ownBlock = some b → ρ b = 2000 := h.row.1
  refine ⟨fun b => if w.heap.size ≤ b ∧ b < w1.heap.size then 2000 else ρ b, h.ch.beside hg.size (fun b hlt => if_neg (by omega)) (fun b hle => ?_) (fun b hne => ?_) (fun b hlt hr => hg.block b hlt (fun e => by have := hvo b e.symm; omega)), hb, ?_, ?_, ?_⟩
  · show (if w.heap.size ≤ b ∧ b < w1.heap.size then 2000 else ρ b) = 0
    rw [if_neg (by omega)]
    exact h.ch.fresh b (Nat.le_trans hg.size hle)
  · by_cases e : w.heap.size ≤ b ∧ b < w1.heap.size
    · have := h.bel.size; omega
    · have hne' : (if w.heap.size ≤ b ∧ b < w1.heap.size then 2000 else ρ b) ≠ 0 := hne
      rw [if_neg e] at hne'
      exact h.ch.rb b hne'
  · rw [List.map_append]
    refine Kd.R_mono (Kd.R_bound hR) (fun b hb2 => ?_)
    show (if w.heap.size ≤ b ∧ b < w1.heap.size then 2000 else ρ b) = 2000
    by_cases e : w.heap.size ≤ b ∧ b < w1.heap.size
    · rw [if_pos e]
    · rw [if_neg e]
      rcases hb2.1 with h1 | h1
      · exact h1
      · exact absurd ⟨h1, hb2.2.2.1⟩ e
  · rw [List.map_append, h.outs_]; rfl
  · rw [List.pairwise_append]
    exact ⟨h.asc, List.pairwise_singleton _ _, fun a ha b hb => by rw [List.mem_singleton] at hb; subst hb; exact hi a ha⟩
theorem PermIn.keep {ρ' : Nat → Nat} {w w' : World} {v : Value} {p : List Int} {N : Nat} (h : PermAt w v p) (hN : w.heap.size ≤ N) (hb : Below N w w') (hρ : ∀ b, b < w.heap.size → ρ' b = 0) : PermIn ρ' w' v p :=
  (permIn_old (ρ := ρ') h hρ).move (fun b hlt hr => ⟨hr, hb.block b (Nat.lt_of_lt_of_le hlt hN)⟩)
theorem idx_row {svs : List Sv} {all : List (List Int)} {idx : List Nat} {f : Nat → Nat} {w w' : World} {base e : Nat} {ok : Nat → Prop} {v vall : Value} {outs : List (List Int)} (hlen : svs.length = all.length) (hR : Kd.R kv e w' w.heap.size ok v (idx.map fun i => svs.getD i (none, 0, 0))) (hbase : base ≤ w.heap.size)
    (ho : outs = idx.map fun i => all.getD i []) (hasc : idx.Pairwise (· < ·)) (hlt : ∀ i ∈ idx, i < all.length) (hb : Below w.heap.size w w')
    (h : ∀ (i : Nat) (sv : Sv) (p : List Int), svs[i]? = some sv → all[i]? = some p → Kd.R (Kd.int .i64) 3 w base (fun b => True ∧ some b ≠ vall.ownBlock ∧ f b = i) (svE sv) p) : Kd.S (Kd.slice 3 (Kd.int .i64)) e w' base (fun _ => True) v outs := by
  have hnd : idx.Nodup := by rw [List.nodup_iff_pairwise_ne]; exact hasc.imp (fun h => by omega)
  refine S_pack (fun b => idx.idxOf (f b)) (by rw [ho]; simp) (Kd.R_lower hR hbase) (fun _ _ => trivial) (fun t sv p hsv hp => ?_)
  rw [ho, List.getElem?_map] at hp
  rw [List.getElem?_map] at hsv
  obtain ⟨i, hi, rfl⟩ := Option.map_eq_some_iff.1 hsv
  rw [hi] at hp
  obtain rfl := Option.some.inj hp
  have hmem : i ∈ idx := List.mem_of_getElem? hi
  have hil := hlt i hmem
  have h1 := h i (svs.getD i (none, 0, 0)) (all.getD i []) (by rw [List.getD_eq_getElem?_getD, List.getElem?_eq_getElem (by omega)]; rfl) (by rw [List.getD_eq_getElem?_getD, List.getElem?_eq_getElem hil]; rfl)
  have h2 := Kd.R_bound h1
  refine Kd.R_below (Kd.R_mono h2 (fun b hb2 => ⟨trivial, fun e => ?_, ?_⟩)) hb
  · have := Kd.R_base hR b e.symm
    have := hb2.2.2.1
    omega
  · show idx.idxOf (f b) = t
    rw [hb2.1.2.2]
    obtain ⟨ht, e⟩ := List.getElem?_eq_some_iff.1 hi
    rw [← e]
    exact hnd.idxOf_getElem t ht
set_option maxHeartbeats 16000000 in
set_option maxRecDepth 100000 in
theorem reduced_any (n : Nat) (hn20 : n ≤ 20) (all r : List (List Int)) (A : Option Addr) (cA base : Nat) (w : World) (hS : Kd.S (Kd.slice 3 (Kd.int .i64)) 49 w base (fun _ => True) (.slice A all.length cA) all) (hbase : base ≤ w.heap.size) (h : reducedM n all = some r) :
    Calls Try.prog 143 #[.int .i64 (n : Int), .slice A all.length cA] w fun e w' => ∃ v, e = .returned v ∧ Kd.S (Kd.slice 3 (Kd.int .i64)) 49 w' base (fun _ => True) v r ∧ Below w.heap.size w w' := by
  obtain ⟨f, svs, hlen, hrow, _, hper⟩ := S_vals hS
  obtain ⟨Ar, cr, er, hle, hC⟩ := Kd.R_reads hrow
  injection er with er1 er2 er3
  subst er1; subst er3
  clear er2
  have HLEN := Aside0.mk hlen
  have HROW := Aside0.mk hrow
  have HPER := Aside0.mk hper
  have HBASE := Aside0.mk hbase
  have HN := Aside0.mk hn20
  have HCAP := Aside0.mk hle
  have HMAX := Aside0.mk hC.2.1
  unfold reducedM at h
  replace h := Option.bind_eq_some_iff.1 h
  obtain ⟨C0, h0, h⟩ := h
  have H0 := Aside0.mk h0
  have H := Aside0.mk h
  clear hlen hrow hper hbase hn20 h h0 hS hC hle
  go_enter Try.func143, Try.ntmps143
  go_wp2_with (go_at_call 118; (refine (new_any n HN.out [] none 0 _ (Kd.C_nil _ _) (Nat.le_refl _) C0 H0.out).mono ?_); rintro e w1 ⟨c, la, capL, ρ, d, rfl, hCh, hb1⟩; have HCh := Aside0.mk hCh; have HB1 := Aside0.mk hb1; clear hCh hb1)
  have HRA : Aside0 (RedAt w svs all ρ w1 c capL la C0 d (.slice none 0 0) [] []) := ⟨⟨HCh.out, HB1.out, Kd.R_nil _ _ _ _ _, rfl, List.Pairwise.nil⟩⟩
  clear HCh HB1
  go_loopg [5, 13] all.length (fun kq v5 v13 w' => ∃ (i : Nat) (ρ_ : Nat → Nat) (C_ : Ch) (d_ : Nat → LD) (outs_ : List (List Int)) (idx_ : List Nat) (vo_ : Value), v13 = .int .i64 (i : Int) ∧ vo_ = v5 ∧ Aside0 (RedAt w svs all ρ_ w' c capL la C_ d_ vo_ outs_ idx_) ∧ Aside0 (∀ j ∈ idx_, j < i) ∧ Aside0 (redLoop (all.length : Int) (all.drop i) C_ outs_ = some r) ∧ Aside0 (i + kq = all.length))
  case atStart => exact ⟨0, ρ, C0, d, [], [], _, (by first | rfl | (simp; done)), rfl, HRA, ⟨by simp⟩, H, ⟨by omega⟩⟩
  case round =>
    clear HRA H
    obtain ⟨i, ρ_, C_, d_, outs_, idx_, vo_, rfl, rfl, HR_, HI, HA, HJ⟩ := hrel
    have h := HA.out
    clear HA
    cases gk with
    | zero =>
      have hj : (i < all.length) = False := eq_false (by have := HJ.out; omega)
      rw [List.drop_eq_nil_of_le (by have := HJ.out; omega)] at h
      obtain rfl := Option.some.inj h
      clear h
      go_wp2
      go_ret
      exact ⟨_, rfl, idx_row HLEN.out HR_.out.row HBASE.out HR_.out.outs_ HR_.out.asc (fun j hj => by have := HI.out j hj; have := HJ.out; omega) HR_.out.bel HPER.out, HR_.out.bel⟩
    | succ m1 =>
      have hil : i < all.length := by have := HJ.out; omega
      have hj : (i < all.length) = True := eq_true hil
      have hj2 : ((i : Int) < (all.length : Int)) = True := eq_true (by omega)
      have hj0 : (0 ≤ (i : Int)) = True := eq_true (by omega)
      have HJ2 : Aside0 (i + 1 + m1 = all.length) := ⟨by have := HJ.out; omega⟩
      have HIL := Aside0.mk hil
      rw [List.drop_eq_getElem_cons hil, redLoop] at h
      have ep : all[i] = all.getD i [] := by rw [List.getD_eq_getElem?_getD, List.getElem?_eq_getElem hil]; rfl
      rw [ep] at h
      have hsl : i < svs.length := by rw [HLEN.out]; exact hil
      have es : svs[i] = svs.getD i (none, 0, 0) := by rw [List.getD_eq_getElem?_getD, List.getElem?_eq_getElem hsl]; rfl
      have HPA := Aside0.mk (PermAt.of_R (HPER.out i svs[i] (all.getD i []) (List.getElem?_eq_getElem hsl) (by rw [List.getElem?_eq_getElem hil, ep])))
      rw [es] at HPA
      have HPI := Aside0.mk (PermIn.keep (ρ' := ρ_) HPA.out (Nat.le_refl _) HR_.out.bel (fun b hb => Classical.byContradiction fun hne => by have := HR_.out.ch.rb b hne; omega))
      obtain ⟨ad, gA, hcell0⟩ : ∃ ad, A = some ad ∧ w.cell? (ad.add i) = some (svE (svs.getD i (none, 0, 0))) := by
        obtain ⟨_, _, eR, _, hC⟩ := Kd.R_reads HROW.out
        injection eR with e1 _ _
        subst e1
        obtain ⟨ad, eA, hc⟩ := hC.2.2 (by omega)
        obtain ⟨c1, hcl1, hK1, hcc⟩ := hc i svs[i] (List.getElem?_eq_getElem hsl)
        refine ⟨ad, eA, ?_⟩
        have hK1 : c1 = [svE svs[i]] := hK1
        subst hK1
        have h9 : w.cell? (ad.add (i * 1 + 0)) = some (svE svs[i]) := hcc 0 _ rfl
        rw [Nat.mul_one, Nat.add_zero, es] at h9
        exact h9
      subst gA
      have hcell := (World.cell?_of_block (w := w) (w' := wr) (HR_.out.bel.block _ (World.block_lt_of_cell? w _ hcell0))).trans hcell0
      have wi : wrap64 ((i : Int) + 1) = ((i + 1 : Nat) : Int) := (IntWalk.wrap64_in _ ⟨by omega, by have := HMAX.out; have := HLEN.out; omega⟩).trans (by omega)
      obtain ⟨⟨sa, sn, sc⟩, hsv⟩ : ∃ t : Sv, svs.getD i (none, 0, 0) = t := ⟨_, rfl⟩
      rw [hsv] at hcell HPI HPA
      simp only [svE] at hcell HPI HPA
      have HSV := Aside0.mk hsv
      clear hsv
      replace h := Option.bind_eq_some_iff.1 h
      obtain ⟨b, h1, h⟩ := h
      have A1 := Aside0.mk h1
      clear ep es hsl hcell0 hil h1
      cases b with
      | true =>
            rw [if_pos rfl] at h
            obtain ⟨o, ho'⟩ : ∃ o, belowF C_ 0 = o := ⟨_, rfl⟩
            rw [ho'] at h
            have ho := Aside0.mk ho'
            clear ho'
            by_cases eo : o = (all.length : Int)
            · have eo1 : (o == (all.length : Int)) = true := beq_iff_eq.mpr eo
              rw [if_pos eo] at h
              obtain rfl := Option.some.inj h
              clear h eo
              go_wp2_with (first | (go_at_call 95; (refine (contains_any C_ (all.getD i []) true _ ρ_ w.heap.size c capL la d_ _ HR_.out.ch HPI.out A1.out).mono ?_); rintro e w2 ⟨rfl, hb2⟩; have HR2 := Aside0.mk (HR_.out.below hb2); have HB2 := Aside0.mk hb2; clear hb2) | (go_at_call 87; (refine (order_any HR2.out.ch).mono ?_); rintro e w4 ⟨rfl, hb4⟩; rw [ho.out]; have HR4 := Aside0.mk (HR2.out.below hb4); clear hb4))
              go_ret
              exact ⟨_, rfl, idx_row HLEN.out HR4.out.row HBASE.out HR4.out.outs_ HR4.out.asc (fun j hj => by have := HI.out j hj; have := HIL.out; omega) HR4.out.bel HPER.out, HR4.out.bel⟩
            · have eo1 : (o == (all.length : Int)) = false := beq_eq_false_iff_ne.mpr eo
              rw [if_neg eo] at h
              have H := Aside0.mk h
              clear h eo
              go_wp2_with (first | (go_at_call 95; (refine (contains_any C_ (all.getD i []) true _ ρ_ w.heap.size c capL la d_ _ HR_.out.ch HPI.out A1.out).mono ?_); rintro e w2 ⟨rfl, hb2⟩; have HR2 := Aside0.mk (HR_.out.below hb2); have HB2 := Aside0.mk hb2; clear hb2) | (go_at_call 87; (refine (order_any HR2.out.ch).mono ?_); rintro e w4 ⟨rfl, hb4⟩; rw [ho.out]; have HR4 := Aside0.mk (HR2.out.below hb4); clear hb4))
              go_roundg m1
              case measure => exact Nat.lt_succ_self _
              case rel => exact ⟨i + 1, ρ_, C_, d_, outs_, idx_, vo_, (by first | rfl | (rw [wi]; done) | (simp [wi]; done)), rfl, HR4, ⟨fun j hj => by have := HI.out j hj; omega⟩, H, HJ2⟩
      | false =>
            rw [if_neg (by decide)] at h
            have HOL : Aside0 (outs_.length < 1000) := by
              by_cases e : outs_.length < 1000
              · exact ⟨e⟩
              · rw [if_neg e] at h; cases h
            rw [if_pos HOL.out] at h
            have HOL : Aside0 (idx_.length < 1000) := ⟨by have := HOL.out; rw [HR_.out.outs_] at this; simpa using this⟩
            replace h := Option.bind_eq_some_iff.1 h
            obtain ⟨C2, h2, h⟩ := h
            have A2 := Aside0.mk h2
            clear h2
            obtain ⟨o, ho'⟩ : ∃ o, belowF C2 0 = o := ⟨_, rfl⟩
            rw [ho'] at h
            have ho := Aside0.mk ho'
            clear ho'
            by_cases eo : o = (all.length : Int)
            · have eo1 : (o == (all.length : Int)) = true := beq_iff_eq.mpr eo
              rw [if_pos eo] at h
              obtain rfl := Option.some.inj h
              clear h eo
              go_wp2_with (first | (go_at_call 95; (refine (contains_any C_ (all.getD i []) false _ ρ_ w.heap.size c capL la d_ _ HR_.out.ch HPI.out A1.out).mono ?_); rintro e w2 ⟨rfl, hb2⟩; have HR2 := Aside0.mk (HR_.out.below hb2); have HB2 := Aside0.mk hb2; clear hb2) | ((with_reducible refine gate_builtin (b := .append) (xs := #[.tmp 21, .tmp 23]) rfl ?_); at_builtin; refine Kd.R_append kv (w0 := w) (W := w2) w.heap.size rfl (.tmp 21) (.tmp 23) 35 49 (.slice none 0 0) 24 rfl Try.underlying35 perm_info rfl (by decide) (by omega) vo_ (idx_.map fun i => svs.getD i (none, 0, 0)) ((sa, sn, sc) : Sv) [.slice sa sn sc] (fun b => ρ_ b = 2000 ∨ w2.heap.size ≤ b) (fun _ => False) rfl rfl ?aP (fun _ hk => hk.elim) ?aF ?aO ?aB ?aS ?aL ?_; (case aP => rfl); (case aF => exact fun _ h => .inr h); (case aO => exact Kd.R_mono HR2.out.row (fun _ h => .inl h)); (case aB => exact HR2.out.bel); (case aS => exact HR2.out.bel.size); (case aL => have := HOL.out; rw [List.length_map]; omega); intro v3 w3 ho3 hb3 hg3 hat3; rw [show ((sa, sn, sc) : Sv) = svs.getD i (none, 0, 0) from HSV.out.symm] at ho3; obtain ⟨ρ3, R3⟩ := HR2.out.push HI.out ho3 hb3 hg3; have HR3 := Aside0.mk R3; clear ho3 hb3 hg3 hat3 R3) | (go_at_call 140; (refine (add_any w.heap.size c capL la C_ C2 (all.getD i []) w3 ρ3 d_ _ HR3.out.ch HR3.out.bel.size (PermIn.keep HPA.out (Nat.le_refl _) HR3.out.bel (fun b hb => Classical.byContradiction fun hne => by have := HR3.out.ch.rb b hne; omega)) A2.out).mono ?_); rintro e w8 ⟨rfl, ρ8, d8, hC8, hd8, hS8⟩; have HR8 := Aside0.mk (HR3.out.grew hC8 hS8); clear hC8 hd8 hS8) | (go_at_call 87; (refine (order_any HR8.out.ch).mono ?_); rintro e w4 ⟨rfl, hb4⟩; rw [ho.out]; have HR4 := Aside0.mk (HR8.out.below hb4); clear hb4))
              go_ret
              exact ⟨_, rfl, idx_row HLEN.out HR4.out.row HBASE.out HR4.out.outs_ HR4.out.asc (fun j hj => (List.mem_append.1 hj).elim (fun h => Nat.lt_trans (HI.out j h) HIL.out) (fun h => by rw [List.mem_singleton] at h; rw [h]; exact HIL.out)) HR4.out.bel HPER.out, HR4.out.bel⟩
            · have eo1 : (o == (all.length : Int)) = false := beq_eq_false_iff_ne.mpr eo
              rw [if_neg eo] at h
              have H := Aside0.mk h
              clear h eo
              go_wp2_with (first | (go_at_call 95; (refine (contains_any C_ (all.getD i []) false _ ρ_ w.heap.size c capL la d_ _ HR_.out.ch HPI.out A1.out).mono ?_); rintro e w2 ⟨rfl, hb2⟩; have HR2 := Aside0.mk (HR_.out.below hb2); have HB2 := Aside0.mk hb2; clear hb2) | ((with_reducible refine gate_builtin (b := .append) (xs := #[.tmp 21, .tmp 23]) rfl ?_); at_builtin; refine Kd.R_append kv (w0 := w) (W := w2) w.heap.size rfl (.tmp 21) (.tmp 23) 35 49 (.slice none 0 0) 24 rfl Try.underlying35 perm_info rfl (by decide) (by omega) vo_ (idx_.map fun i => svs.getD i (none, 0, 0)) ((sa, sn, sc) : Sv) [.slice sa sn sc] (fun b => ρ_ b = 2000 ∨ w2.heap.size ≤ b) (fun _ => False) rfl rfl ?aP (fun _ hk => hk.elim) ?aF ?aO ?aB ?aS ?aL ?_; (case aP => rfl); (case aF => exact fun _ h => .inr h); (case aO => exact Kd.R_mono HR2.out.row (fun _ h => .inl h)); (case aB => exact HR2.out.bel); (case aS => exact HR2.out.bel.size); (case aL => have := HOL.out; rw [List.length_map]; omega); intro v3 w3 ho3 hb3 hg3 hat3; rw [show ((sa, sn, sc) : Sv) = svs.getD i (none, 0, 0) from HSV.out.symm] at ho3; obtain ⟨ρ3, R3⟩ := HR2.out.push HI.out ho3 hb3 hg3; have HR3 := Aside0.mk R3; clear ho3 hb3 hg3 hat3 R3) | (go_at_call 140; (refine (add_any w.heap.size c capL la C_ C2 (all.getD i []) w3 ρ3 d_ _ HR3.out.ch HR3.out.bel.size (PermIn.keep HPA.out (Nat.le_refl _) HR3.out.bel (fun b hb => Classical.byContradiction fun hne => by have := HR3.out.ch.rb b hne; omega)) A2.out).mono ?_); rintro e w8 ⟨rfl, ρ8, d8, hC8, hd8, hS8⟩; have HR8 := Aside0.mk (HR3.out.grew hC8 hS8); clear hC8 hd8 hS8) | (go_at_call 87; (refine (order_any HR8.out.ch).mono ?_); rintro e w4 ⟨rfl, hb4⟩; rw [ho.out]; have HR4 := Aside0.mk (HR8.out.below hb4); clear hb4))
              go_roundg m1
              case measure => exact Nat.lt_succ_self _
              case rel => exact ⟨i + 1, ρ8, C2, d8, _, _, v3, (by first | rfl | (rw [wi]; done) | (simp [wi]; done)), rfl, HR4, ⟨fun j hj => by
                rcases List.mem_append.1 hj with h | h
                · have := HI.out j h; omega
                · rw [List.mem_singleton] at h; omega⟩, H, HJ2⟩
end Go.Proofs.Ytmbldnoepjmhhaa.Bs
end
section
/- The functions Order, Contains, elements and group of package permgroup. -/
namespace Go.Proofs.Ytmbldnoepjmhhaa.Bs
open Go.RowKit Go.Sort Go.Shelf Go.Proofs.YtmbldnoepjmhhaaW.PrintWords Go.Proofs.YtmbldnoepjmhhaaW.PrintLast Go.Proofs.YtmbldnoepjmhhaaW.PrintMore Go.Proofs.Ytmbldnoepjmhhaa.Plain Go.Proofs.Ytmbldnoepjmhhaa.PBs
attribute [local go_sem] max2_int min2_int max_two min_two max_three min_three max_four min_four
theorem ChainAt.lower {ρ : Nat → Nat} {w : World} {base base' c capL : Nat} {la : Option Addr} {C : Ch} {d : Nat → LD} (h : ChainAt ρ w base c la capL C d) (hb : base' ≤ base) : ChainAt ρ w base' c la capL C d where
  len := h.len
  small := h.small
  fresh := h.fresh
  rb := fun b hne => Nat.le_trans hb (h.rb b hne)
  rc := h.rc
  hn := h.hn
  hl := h.hl
  hcap := h.hcap
  ls := h.ls
  lv := fun k L hL => by
    have l := h.lv k L hL
    exact { rl := l.rl, rw' := l.rw', ro := l.ro, rg := l.rg, c1 := l.c1, c2 := l.c2, c3 := l.c3, c0 := l.c0, fr := l.fr, wrd := Kd.R_lower l.wrd hb, wlen := l.wlen, wp := l.wp, orb := Kd.R_lower l.orb hb, gen := Kd.R_lower l.gen hb, glen := l.glen, gp := l.gp }
set_option maxHeartbeats 4000000 in
theorem chain_any (n : Nat) (hn20 : n ≤ 20) (gens : List (List Int)) (A : Option Addr) (cap : Nat) (w : World) (hg : Kd.C (Kd.slice 3 (Kd.int .i64)) w A gens.length gens) (hcap : gens.length ≤ cap) (C : Ch) (h : new_ n gens = some C) :
    Calls Try.prog 86 #[.agg #[.int .i64 (n : Int), .slice A gens.length cap]] w (New n C w) := by
  have hu := Try.underlying37
  have HN := Aside0.mk hn20
  have H := Aside0.mk h
  have HC := Aside0.mk hcap
  have HG := Aside0.mk (Kd.C_below hg (below_alloc (Below.refl w.heap.size w) (.cells #[.int .i64 (n : Int), .slice A gens.length cap] 37)))
  clear hg hn20 h hcap
  go_enter Try.func86, Try.ntmps86
  go_wp2_with (go_at_call 118; (refine (new_any n HN.out gens A cap _ HG.out HC.out C H.out).mono ?_); rintro e w1 ⟨c, la, capL, ρ, d, rfl, hCh, hb1⟩; have HCh := Aside0.mk hCh; have HB1 := Aside0.mk hb1; clear hCh hb1)
  go_ret
  exact ⟨c, la, capL, ρ, d, rfl, HCh.out.lower (by simp), below_step (below_alloc (Below.refl _ _) _) HB1.out⟩
def permgroup_Order.f (k : Nat) (a0_0 : Int) (l0_1 : List (List Int)) : Option (Int × Int) := (permgroup_Check.f k a0_0 l0_1).bind fun e => if e = 0 then (if 0 ≤ a0_0 ∧ a0_0 ≤ 20 then (new_ a0_0.toNat l0_1).bind fun C => some (belowF C 0, 0) else none) else some (0, e)
theorem permgroup_Order.mono : ∀ a0_0 l0_1 k, LeO (permgroup_Order.f k a0_0 l0_1) (permgroup_Order.f (k + 1) a0_0 l0_1) := fun a0_0 l0_1 k => LeO.bind (permgroup_Check.mono _ _ _) (fun _ => LeO.refl _)
set_option maxHeartbeats 4000000 in
set_option maxRecDepth 100000 in
theorem permgroup_Order.calls (k : Nat) (a0_0 : Int) (A0_1 : Option Addr) (c0_1 : Nat) (l0_1 : List (List Int)) (r1 r2 : Int) (w : World) (hr0_1 : Kd.C (Kd.slice 3 (Kd.int .i64)) w A0_1 l0_1.length l0_1) (hc0_1 : l0_1.length ≤ c0_1) (h : permgroup_Order.f k a0_0 l0_1 = some (r1, r2)) :
    Calls Try.prog 29 #[.agg #[.int .i64 a0_0, .slice A0_1 l0_1.length c0_1]] w fun e w' => e = .returned (.tuple #[.int .i64 r1, .int .i64 r2]) ∧ Below w.heap.size w w' := by
  have hu := Try.underlying37
  have HC := Aside0.mk hc0_1
  have HG := Aside0.mk (Kd.C_below hr0_1 (below_alloc (Below.refl w.heap.size w) (.cells #[.int .i64 a0_0, .slice A0_1 l0_1.length c0_1] 37)))
  unfold permgroup_Order.f at h
  replace h := Option.bind_eq_some_iff.1 h
  obtain ⟨e, h1, h⟩ := h
  have A1 := Aside0.mk h1
  clear hr0_1 hc0_1 h1
  by_cases e0 : e = 0
  · rw [if_pos e0] at h
    have hr : 0 ≤ a0_0 ∧ a0_0 ≤ 20 := by
      by_cases hr : 0 ≤ a0_0 ∧ a0_0 ≤ 20
      · exact hr
      · rw [if_neg hr] at h; cases h
    rw [if_pos hr] at h
    obtain ⟨n, rfl⟩ : ∃ n : Nat, a0_0 = (n : Int) := ⟨a0_0.toNat, by omega⟩
    rw [Int.toNat_natCast] at h
    replace h := Option.bind_eq_some_iff.1 h
    obtain ⟨C, h2, h⟩ := h
    obtain ⟨rfl, rfl⟩ := Prod.mk.inj (Option.some.inj h)
    have A2 := Aside0.mk h2
    have HN : Aside0 (n ≤ 20) := ⟨by omega⟩
    obtain ⟨o, ho'⟩ : ∃ o, belowF C 0 = o := ⟨_, rfl⟩
    have ho := Aside0.mk ho'
    rw [ho']
    subst e0
    clear h h2 hr ho'
    go_enter Try.func29, Try.ntmps29
    go_wp2_with (first
      | (go_at_call 33; (refine (permgroup_Check.calls k (n : Int) A0_1 c0_1 l0_1 0 _ HG.out HC.out A1.out).mono ?_); rintro e w1 ⟨rfl, hb1⟩; have HB1 := Aside0.mk (below_step (w := w) (below_alloc (Below.refl _ _) _) hb1); have HG1 := Aside0.mk (Kd.C_below HG.out hb1); have hcx := cell_move (w' := w1) (show (w.alloc (.cells #[.int .i64 (n : Int), .slice A0_1 l0_1.length c0_1] 37)).cell? ⟨w.heap.size, 0, none⟩ = some (.int .i64 (n : Int)) from by rw [World.cell?_alloc_at _ _ _ _ rfl]; rfl) (fun hlt => hb1.block _ hlt); have hcy := cell_move (w' := w1) (show (w.alloc (.cells #[.int .i64 (n : Int), .slice A0_1 l0_1.length c0_1] 37)).cell? ⟨w.heap.size, 1, none⟩ = some (.slice A0_1 l0_1.length c0_1) from by rw [World.cell?_alloc_at _ _ _ _ rfl]; rfl) (fun hlt => hb1.block _ hlt); clear hb1)
      | (go_at_call 86; (refine (chain_any n HN.out l0_1 A0_1 c0_1 _ HG1.out HC.out C A2.out).mono ?_); rintro e w2 ⟨c, la, capL, ρ, d, rfl, hCh, hb2⟩; have HCh := Aside0.mk hCh; have HB2 := Aside0.mk (below_step HB1.out hb2); clear hCh hb2)
      | (go_at_call 87; (refine (order_any HCh.out).mono ?_); rintro e w3 ⟨rfl, hb3⟩; rw [ho.out]; have HB3 := Aside0.mk (below_step HB2.out hb3); clear hb3))
    go_ret2
    exact ⟨rfl, HB3.out⟩
  · rw [if_neg e0] at h
    obtain ⟨rfl, rfl⟩ := Prod.mk.inj (Option.some.inj h)
    have e1 : (e == 0) = false := beq_eq_false_iff_ne.mpr e0
    have e2 : (e != 0) = true := bne_iff_ne.mpr e0
    clear h e0
    go_enter Try.func29, Try.ntmps29
    go_wp2_with (go_at_call 33; (refine (permgroup_Check.calls k a0_0 A0_1 c0_1 l0_1 e _ HG.out HC.out A1.out).mono ?_); rintro e' w1 ⟨rfl, hb1⟩; have HB1 := Aside0.mk (below_step (w := w) (below_alloc (Below.refl _ _) _) hb1); clear hb1)
    go_ret2
    exact ⟨rfl, HB1.out⟩
def permgroup_elements.f (a0 : Int) (l1 : List (List Int)) : Option (List (List Int) × Int) := if 0 ≤ a0 ∧ a0 ≤ 20 then (new_ a0.toNat l1).bind fun C => if 5040 < belowF C 0 then some ([], 5) else (elements C).bind fun E => some (E, 0) else none
set_option maxHeartbeats 4000000 in
set_option maxRecDepth 100000 in
theorem permgroup_elements.calls (a0 : Int) (A1 : Option Addr) (c1 : Nat) (l1 : List (List Int)) (r1 : List (List Int)) (r2 : Int) (w : World) (hr1 : Kd.C (Kd.slice 3 (Kd.int .i64)) w A1 l1.length l1) (hc1 : l1.length ≤ c1) (h : permgroup_elements.f a0 l1 = some (r1, r2)) :
    Calls Try.prog 88 #[.int .i64 a0, .slice A1 l1.length c1] w fun e w' => ∃ v0_ : Value, e = .returned (.tuple #[v0_, .int .i64 r2]) ∧ Kd.S (Kd.slice 3 (Kd.int .i64)) 49 w' w.heap.size (fun _ => True) v0_ r1 ∧ Below w.heap.size w w' := by
  have HC := Aside0.mk hc1
  have HG := Aside0.mk hr1
  unfold permgroup_elements.f at h
  have hr : 0 ≤ a0 ∧ a0 ≤ 20 := by
    by_cases hr : 0 ≤ a0 ∧ a0 ≤ 20
    · exact hr
    · rw [if_neg hr] at h; cases h
  rw [if_pos hr] at h
  obtain ⟨n, rfl⟩ : ∃ n : Nat, a0 = (n : Int) := ⟨a0.toNat, by omega⟩
  rw [Int.toNat_natCast] at h
  replace h := Option.bind_eq_some_iff.1 h
  obtain ⟨C, h2, h⟩ := h
  have A2 := Aside0.mk h2
  have HN : Aside0 (n ≤ 20) := ⟨by omega⟩
  obtain ⟨o, ho'⟩ : ∃ o, belowF C 0 = o := ⟨_, rfl⟩
  have ho := Aside0.mk ho'
  rw [ho'] at h
  clear hr1 hc1 hr h2 ho'
  by_cases e0 : 5040 < o
  · rw [if_pos e0] at h
    obtain ⟨rfl, rfl⟩ := Prod.mk.inj (Option.some.inj h)
    have e1 : decide (5040 < o) = true := decide_eq_true e0
    clear h e0
    go_enter Try.func88, Try.ntmps88
    go_wp2_with (first
      | (go_at_call 118; (refine (new_any n HN.out l1 A1 c1 _ HG.out HC.out C A2.out).mono ?_); rintro e w1 ⟨c, la, capL, ρ, d, rfl, hCh, hb1⟩; have HCh := Aside0.mk hCh; have HB1 := Aside0.mk hb1; clear hCh hb1)
      | (go_at_call 87; (refine (order_any HCh.out).mono ?_); rintro e w3 ⟨rfl, hb3⟩; rw [ho.out]; have HB3 := Aside0.mk (below_step HB1.out hb3); clear hb3))
    go_ret2
    exact ⟨_, rfl, Kd.S_nil _ _ _ _ _, HB3.out⟩
  · rw [if_neg e0] at h
    replace h := Option.bind_eq_some_iff.1 h
    obtain ⟨E, h3, h⟩ := h
    obtain ⟨rfl, rfl⟩ := Prod.mk.inj (Option.some.inj h)
    have A3 := Aside0.mk h3
    have e1 : decide (5040 < o) = false := decide_eq_false e0
    clear h e0 h3
    go_enter Try.func88, Try.ntmps88
    go_wp2_with (first
      | (go_at_call 118; (refine (new_any n HN.out l1 A1 c1 _ HG.out HC.out C A2.out).mono ?_); rintro e w1 ⟨c, la, capL, ρ, d, rfl, hCh, hb1⟩; have HCh := Aside0.mk hCh; have HB1 := Aside0.mk hb1; clear hCh hb1)
      | (go_at_call 87; (refine (order_any HCh.out).mono ?_); rintro e w3 ⟨rfl, hb3⟩; rw [ho.out]; have HB3 := Aside0.mk (below_step HB1.out hb3); have HCh3 := Aside0.mk (HCh.out.below hb3); clear hb3)
      | (go_at_call 120; (refine (elements_any HCh3.out A3.out).mono ?_); rintro e w4 ⟨v4, rfl, hS4, hb4⟩; have HS4 := Aside0.mk (Kd.S_lower hS4 HB3.out.size); have HB4 := Aside0.mk (below_step HB3.out hb4); clear hS4 hb4))
    go_ret2
    exact ⟨_, rfl, HS4.out, HB4.out⟩
set_option maxHeartbeats 4000000 in
set_option maxRecDepth 100000 in
theorem reducedG_any (n : Nat) (hn20 : n ≤ 20) (all r : List (List Int)) (A : Option Addr) (cA base : Nat) (w : World) (hS : Kd.S (Kd.slice 3 (Kd.int .i64)) 49 w base (fun _ => True) (.slice A all.length cA) all) (hbase : base ≤ w.heap.size) (h : reducedM n all = some r) :
    Calls Try.prog 121 #[.int .i64 (n : Int), .slice A all.length cA] w fun e w' => ∃ v, e = .returned (.agg #[.int .i64 (n : Int), v]) ∧ Kd.S (Kd.slice 3 (Kd.int .i64)) 49 w' base (fun _ => True) v r ∧ Below w.heap.size w w' := by
  have hu := Try.underlying37
  have HN := Aside0.mk hn20
  have H := Aside0.mk h
  have HS := Aside0.mk (Kd.S_alloc hS (.cells #[.int .i64 0, .slice none 0 0] 37))
  have HBASE := Aside0.mk hbase
  clear hn20 h hS hbase
  go_enter Try.func121, Try.ntmps121
  go_wp2_with (go_at_call 143; (refine (reduced_any n HN.out all r A cA base _ HS.out (Nat.le_trans HBASE.out (by simp)) H.out).mono ?_); rintro e w1 ⟨v1, rfl, hS1, hb1⟩; have HS1 := Aside0.mk hS1; have HB1 := Aside0.mk hb1; have hc0 := cell_move (w' := w1) (show (w.alloc (.cells #[.int .i64 0, .slice none 0 0] 37)).cell? ⟨w.heap.size, 0, none⟩ = some (.int .i64 0) from by rw [World.cell?_alloc_at _ _ _ _ rfl]; rfl) (fun hlt => hb1.block _ hlt); have hc1 := cell_move (w' := w1) (show (w.alloc (.cells #[.int .i64 0, .slice none 0 0] 37)).cell? ⟨w.heap.size, 1, none⟩ = some (.slice none 0 0) from by rw [World.cell?_alloc_at _ _ _ _ rfl]; rfl) (fun hlt => hb1.block _ hlt); have hf0 := (World.frozen?_of_block (w := w.alloc (.cells #[.int .i64 0, .slice none 0 0] 37)) (a := ⟨w.heap.size, 0, none⟩) (hb1.block _ (by simp))).trans (World.frozen?_alloc_at _ _ _ _ rfl); have hf1 := (World.frozen?_of_block (w := w.alloc (.cells #[.int .i64 0, .slice none 0 0] 37)) (a := ⟨w.heap.size, 1, none⟩) (hb1.block _ (by simp))).trans (World.frozen?_alloc_at _ _ _ _ rfl); obtain ⟨A1, c1, e1⟩ := Kd.R_slice (Kd.S_R hS1); subst e1; clear hS1 hb1)
  have hk1 : w1.heap[w.heap.size]? = some (.cells #[.int .i64 0, .slice none 0 0] 37 (0, 0)) := (HB1.out.block _ (by simp)).trans (blk_new _ _)
  have hk2 := blk_put hk1 0 (.int .i64 (n : Int)) rfl
  have hk3 := blk_put hk2 1 (.slice A1 r.length c1) rfl
  have hty : ∀ q, q ∈ 49 :: (Kd.slice 3 (Kd.int .i64)).E → q ≠ 37 := by decide
  have hS2 := Kd.S_set HS1.out hk1 hty 0 (.int .i64 (n : Int))
  have hS3 := Kd.S_set hS2 hk2 hty 1 (.slice A1 r.length c1)
  refine bodyPost_ret (results_cell_row rfl _ _ w.heap.size 37 #[.int .i64 (n : Int), .slice A1 r.length c1] (0, 0) _ rfl hk3 Try.underlying37 rfl (by kernel_rfl)) rfl ?_
  exact ⟨_, rfl, hS3, ((below_step (below_alloc (Below.refl _ _) _) HB1.out).setCell (Nat.le_refl _) _).setCell (Nat.le_refl _) _⟩
def permgroup_group.f (a0 : Int) (l1 : List (List Int)) : Option (Int × List (List Int) × Int) := (permgroup_elements.f a0 l1).bind fun t => if t.2 = 0 then (reducedM a0.toNat t.1).bind fun r => some (a0, r, 0) else some (0, [], t.2)
set_option maxHeartbeats 4000000 in
set_option maxRecDepth 100000 in
theorem permgroup_group.calls (a0 : Int) (A1 : Option Addr) (c1 : Nat) (l1 : List (List Int)) (r1 : Int) (r2 : List (List Int)) (r3 : Int) (w : World) (hr1 : Kd.C (Kd.slice 3 (Kd.int .i64)) w A1 l1.length l1) (hc1 : l1.length ≤ c1) (h : permgroup_group.f a0 l1 = some (r1, r2, r3)) :
    Calls Try.prog 89 #[.int .i64 a0, .slice A1 l1.length c1] w fun e w' => ∃ v1_ : Value, e = .returned (.tuple #[.agg #[.int .i64 r1, v1_], .int .i64 r3]) ∧ Kd.S (Kd.slice 3 (Kd.int .i64)) 49 w' w.heap.size (fun _ => True) v1_ r2 ∧ Below w.heap.size w w' := by
  have hu := Try.underlying37
  have HC := Aside0.mk hc1
  have HG := Aside0.mk (Kd.C_below hr1 (below_alloc (Below.refl w.heap.size w) (.cells #[.int .i64 0, .slice none 0 0] 37)))
  unfold permgroup_group.f at h
  replace h := Option.bind_eq_some_iff.1 h
  obtain ⟨⟨all, e⟩, h1, h⟩ := h
  have A1' := Aside0.mk h1
  have HA0 : Aside0 (0 ≤ a0 ∧ a0 ≤ 20) := by
    unfold permgroup_elements.f at h1
    by_cases hr : 0 ≤ a0 ∧ a0 ≤ 20
    · exact ⟨hr⟩
    · rw [if_neg hr] at h1; cases h1
  obtain ⟨n, rfl⟩ : ∃ n : Nat, a0 = (n : Int) := ⟨a0.toNat, by have := HA0.out; omega⟩
  have HN : Aside0 (n ≤ 20) := ⟨by have := HA0.out; omega⟩
  clear hr1 hc1 h1 HA0
  have hty : ∀ q, q ∈ 49 :: (Kd.slice 3 (Kd.int .i64)).E → q ≠ 37 := by decide
  have HTY := Aside0.mk hty
  clear hty
  by_cases e0 : e = 0
  · simp only [if_pos e0] at h
    replace h := Option.bind_eq_some_iff.1 h
    obtain ⟨r, h2, h⟩ := h
    rw [Int.toNat_natCast] at h2
    obtain ⟨rfl, h3⟩ := Prod.mk.inj (Option.some.inj h)
    obtain ⟨rfl, rfl⟩ := Prod.mk.inj h3
    have A2 := Aside0.mk h2
    subst e0
    clear h h2 h3
    go_enter Try.func89, Try.ntmps89
    go_wp2_with (first
      | (go_at_call 88; (refine (permgroup_elements.calls (n : Int) A1 c1 l1 all 0 _ HG.out HC.out A1'.out).mono ?_); rintro e w1 ⟨v1, rfl, hS1, hb1⟩; have HS1 := Aside0.mk hS1; have HB1 := Aside0.mk hb1; obtain ⟨B1, d1, e1⟩ := Kd.R_slice (Kd.S_R hS1); subst e1; clear hS1 hb1)
      | (go_at_call 121; (refine (reducedG_any n HN.out all r B1 d1 _ _ HS1.out HB1.out.size A2.out).mono ?_); rintro e w2 ⟨v2, rfl, hS2, hb2⟩; have HS2 := Aside0.mk hS2; have HB2 := Aside0.mk (below_step HB1.out hb2); obtain ⟨B2, d2, e2⟩ := Kd.R_slice (Kd.S_R hS2); subst e2; have hk := Aside0.mk ((HB2.out.block _ (by simp)).trans (blk_new w (.cells #[.int .i64 0, .slice none 0 0] 37))); have hc0 := (blk_cell hk.out 0); have hc1 := (blk_cell hk.out 1); have hf0 := (blk_frozen hk.out 0); have hf1 := (blk_frozen hk.out 1); clear hS2 hb2))
    have hk2 := blk_put hk.out 0 (.int .i64 (n : Int)) rfl
    have hk3 := blk_put hk2 1 (.slice B2 r.length d2) rfl
    have hS2 := Kd.S_set HS2.out hk.out HTY.out 0 (.int .i64 (n : Int))
    have hS3 := Kd.S_set hS2 hk2 HTY.out 1 (.slice B2 r.length d2)
    refine bodyPost_ret (results_ct rfl _ _ w.heap.size 37 #[.int .i64 (n : Int), .slice B2 r.length d2] (0, 0) _ rfl hk3 Try.underlying37 rfl (by kernel_rfl)) rfl ?_
    exact ⟨_, rfl, Kd.S_lower hS3 (by simp), ((below_step (below_alloc (Below.refl _ _) _) HB2.out).setCell (Nat.le_refl _) _).setCell (Nat.le_refl _) _⟩
  · simp only [if_neg e0] at h
    obtain ⟨rfl, h3⟩ := Prod.mk.inj (Option.some.inj h)
    obtain ⟨rfl, rfl⟩ := Prod.mk.inj h3
    have e1 : (e == 0) = false := beq_eq_false_iff_ne.mpr e0
    have e2 : (e != 0) = true := bne_iff_ne.mpr e0
    clear h e0 h3
    go_enter Try.func89, Try.ntmps89
    go_wp2_with (go_at_call 88; (refine (permgroup_elements.calls (n : Int) A1 c1 l1 all e _ HG.out HC.out A1'.out).mono ?_); rintro e' w1 ⟨v1, rfl, hS1, hb1⟩; have HB1 := Aside0.mk hb1; obtain ⟨B1, d1, e1⟩ := Kd.R_slice (Kd.S_R hS1); subst e1; have hk := Aside0.mk ((HB1.out.block _ (by simp)).trans (blk_new w (.cells #[.int .i64 0, .slice none 0 0] 37))); have hc0 := (blk_cell hk.out 0); have hc1 := (blk_cell hk.out 1); have hf0 := (blk_frozen hk.out 0); have hf1 := (blk_frozen hk.out 1); clear hS1 hb1)
    have hk2 := blk_put hk.out 0 (.int .i64 0) rfl
    have hk3 := blk_put hk2 1 (.slice none 0 0) rfl
    refine bodyPost_ret (results_ct rfl _ _ w.heap.size 37 #[.int .i64 0, .slice none 0 0] (0, 0) _ rfl hk3 Try.underlying37 rfl (by kernel_rfl)) rfl ?_
    exact ⟨_, rfl, Kd.S_nil _ _ _ _ _, ((below_step (below_alloc (Below.refl _ _) _) HB1.out).setCell (Nat.le_refl _) _).setCell (Nat.le_refl _) _⟩
end Go.Proofs.Ytmbldnoepjmhhaa.Bs
end
section
/- The function Index of package permgroup. -/
namespace Go.Proofs.Ytmbldnoepjmhhaa.Bs
open Go.RowKit Go.Sort Go.Shelf Go.Proofs.YtmbldnoepjmhhaaW.PrintWords Go.Proofs.YtmbldnoepjmhhaaW.PrintLast Go.Proofs.YtmbldnoepjmhhaaW.PrintMore Go.Proofs.Ytmbldnoepjmhhaa.Plain Go.Proofs.Ytmbldnoepjmhhaa.PBs
attribute [local go_sem] max2_int min2_int max_two min_two max_three min_three max_four min_four
def permgroup_Index.f (k : Nat) (a0_0 : Int) (l0_1 : List (List Int)) (l1 : List Int) : Option (Int × Int) := (permgroup_with.f k a0_0 l0_1 l1).bind fun e => if e = 0 then (if 0 ≤ a0_0 ∧ a0_0 ≤ 20 then (new_ a0_0.toNat l0_1).bind fun C => (indexM C l1).bind fun b => if b.2 = true then some (b.1, 0) else some (0, 28) else none) else some (0, e)
theorem permgroup_Index.mono : ∀ a0_0 l0_1 l1 k, LeO (permgroup_Index.f k a0_0 l0_1 l1) (permgroup_Index.f (k + 1) a0_0 l0_1 l1) := fun a0_0 l0_1 l1 k => LeO.bind (permgroup_with.mono _ _ _ _) (fun _ => LeO.refl _)
set_option maxHeartbeats 4000000 in
set_option maxRecDepth 100000 in
theorem permgroup_Index.calls (k : Nat) (a0_0 : Int) (A0_1 : Option Addr) (c0_1 : Nat) (l0_1 : List (List Int)) (A1 : Option Addr) (c1 : Nat) (l1 : List Int) (r1 : Int) (r2 : Int) (w : World) (hr0_1 : Kd.C (Kd.slice 3 (Kd.int .i64)) w A0_1 l0_1.length l0_1) (hc0_1 : l0_1.length ≤ c0_1) (hr1 : Kd.C (Kd.int .i64) w A1 l1.length l1) (hc1 : l1.length ≤ c1) (h : permgroup_Index.f k a0_0 l0_1 l1 = some (r1, r2)) :
    Calls Try.prog 58 #[.agg #[.int .i64 a0_0, .slice A0_1 l0_1.length c0_1], .slice A1 l1.length c1] w fun e w' => e = .returned (.tuple #[.int .i64 r1, .int .i64 r2]) ∧ Below w.heap.size w w' := by
  have hu := Try.underlying37
  have HC := Aside0.mk hc0_1
  have HC2 := Aside0.mk hc1
  have HG := Aside0.mk (Kd.C_below hr0_1 (below_alloc (Below.refl w.heap.size w) (.cells #[.int .i64 a0_0, .slice A0_1 l0_1.length c0_1] 37)))
  have HG2 := Aside0.mk (Kd.C_below hr1 (below_alloc (Below.refl w.heap.size w) (.cells #[.int .i64 a0_0, .slice A0_1 l0_1.length c0_1] 37)))
  have HP0 : Aside0 (PermAt w (.slice A1 l1.length c1) l1) := ⟨⟨A1, c1, rfl, hc1, hr1⟩⟩
  unfold permgroup_Index.f at h
  replace h := Option.bind_eq_some_iff.1 h
  obtain ⟨e, h1, h⟩ := h
  have A1' := Aside0.mk h1
  clear hr0_1 hc0_1 h1 hr1 hc1
  by_cases e0 : e = 0
  · rw [if_pos e0] at h
    have hr : 0 ≤ a0_0 ∧ a0_0 ≤ 20 := by
      by_cases hr : 0 ≤ a0_0 ∧ a0_0 ≤ 20
      · exact hr
      · rw [if_neg hr] at h; cases h
    rw [if_pos hr] at h
    obtain ⟨n, rfl⟩ : ∃ n : Nat, a0_0 = (n : Int) := ⟨a0_0.toNat, by omega⟩
    rw [Int.toNat_natCast] at h
    replace h := Option.bind_eq_some_iff.1 h
    obtain ⟨C, h2, h⟩ := h
    have A2 := Aside0.mk h2
    have HN : Aside0 (n ≤ 20) := ⟨by omega⟩
    replace h := Option.bind_eq_some_iff.1 h
    obtain ⟨⟨b1, b2⟩, h3, h⟩ := h
    have A3 := Aside0.mk h3
    subst e0
    clear h2 hr h3
    by_cases eb : b2 = true
    · simp only [if_pos eb] at h
      obtain ⟨rfl, rfl⟩ := Prod.mk.inj (Option.some.inj h)
      subst eb
      clear h
      go_enter Try.func58, Try.ntmps58
      go_wp2_with (first
        | (go_at_call 94; (refine (permgroup_with.calls k (n : Int) A0_1 c0_1 l0_1 A1 c1 l1 0 _ HG.out HC.out HG2.out HC2.out A1'.out).mono ?_); rintro e' w1 ⟨rfl, hb1⟩; have HB1 := Aside0.mk (below_step (w := w) (below_alloc (Below.refl _ _) _) hb1); have HG1 := Aside0.mk (Kd.C_below HG.out hb1); have hcx := cell_move (w' := w1) (show (w.alloc (.cells #[.int .i64 (n : Int), .slice A0_1 l0_1.length c0_1] 37)).cell? ⟨w.heap.size, 0, none⟩ = some (.int .i64 (n : Int)) from by rw [World.cell?_alloc_at _ _ _ _ rfl]; rfl) (fun hlt => hb1.block _ hlt); have hcy := cell_move (w' := w1) (show (w.alloc (.cells #[.int .i64 (n : Int), .slice A0_1 l0_1.length c0_1] 37)).cell? ⟨w.heap.size, 1, none⟩ = some (.slice A0_1 l0_1.length c0_1) from by rw [World.cell?_alloc_at _ _ _ _ rfl]; rfl) (fun hlt => hb1.block _ hlt); clear hb1)
        | (go_at_call 86; (refine (chain_any n HN.out l0_1 A0_1 c0_1 _ HG1.out HC.out C A2.out).mono ?_); rintro e w2 ⟨c, la, capL, ρ, d, rfl, hCh, hb2⟩; have HCh := Aside0.mk hCh; have HB2 := Aside0.mk (below_step HB1.out hb2); clear hCh hb2)
        | (go_at_call 108; (refine (index_any HCh.out (PermAt.below HP0.out HB2.out) A3.out).mono ?_); rintro e w3 ⟨rfl, hb3⟩; have HB3 := Aside0.mk (below_step HB2.out hb3); clear hb3))
      go_ret2
      exact ⟨rfl, HB3.out⟩
    · simp only [if_neg eb] at h
      obtain ⟨rfl, rfl⟩ := Prod.mk.inj (Option.some.inj h)
      have eb2 : b2 = false := by cases b2 <;> simp_all
      subst eb2
      clear h eb
      go_enter Try.func58, Try.ntmps58
      go_wp2_with (first
        | (go_at_call 94; (refine (permgroup_with.calls k (n : Int) A0_1 c0_1 l0_1 A1 c1 l1 0 _ HG.out HC.out HG2.out HC2.out A1'.out).mono ?_); rintro e' w1 ⟨rfl, hb1⟩; have HB1 := Aside0.mk (below_step (w := w) (below_alloc (Below.refl _ _) _) hb1); have HG1 := Aside0.mk (Kd.C_below HG.out hb1); have hcx := cell_move (w' := w1) (show (w.alloc (.cells #[.int .i64 (n : Int), .slice A0_1 l0_1.length c0_1] 37)).cell? ⟨w.heap.size, 0, none⟩ = some (.int .i64 (n : Int)) from by rw [World.cell?_alloc_at _ _ _ _ rfl]; rfl) (fun hlt => hb1.block _ hlt); have hcy := cell_move (w' := w1) (show (w.alloc (.cells #[.int .i64 (n : Int), .slice A0_1 l0_1.length c0_1] 37)).cell? ⟨w.heap.size, 1, none⟩ = some (.slice A0_1 l0_1.length c0_1) from by rw [World.cell?_alloc_at _ _ _ _ rfl]; rfl) (fun hlt => hb1.block _ hlt); clear hb1)
        | (go_at_call 86; (refine (chain_any n HN.out l0_1 A0_1 c0_1 _ HG1.out HC.out C A2.out).mono ?_); rintro e w2 ⟨c, la, capL, ρ, d, rfl, hCh, hb2⟩; have HCh := Aside0.mk hCh; have HB2 := Aside0.mk (below_step HB1.out hb2); clear hCh hb2)
        | (go_at_call 108; (refine (index_any HCh.out (PermAt.below HP0.out HB2.out) A3.out).mono ?_); rintro e w3 ⟨rfl, hb3⟩; have HB3 := Aside0.mk (below_step HB2.out hb3); clear hb3))
      go_ret2
      exact ⟨rfl, HB3.out⟩
  · rw [if_neg e0] at h
    obtain ⟨rfl, rfl⟩ := Prod.mk.inj (Option.some.inj h)
    have e1 : (e == 0) = false := beq_eq_false_iff_ne.mpr e0
    have e2 : (e != 0) = true := bne_iff_ne.mpr e0
    clear h e0
    go_enter Try.func58, Try.ntmps58
    go_wp2_with (go_at_call 94; (refine (permgroup_with.calls k a0_0 A0_1 c0_1 l0_1 A1 c1 l1 e _ HG.out HC.out HG2.out HC2.out A1'.out).mono ?_); rintro e' w1 ⟨rfl, hb1⟩; have HB1 := Aside0.mk (below_step (w := w) (below_alloc (Below.refl _ _) _) hb1); have HG1 := Aside0.mk (Kd.C_below HG.out hb1); clear hb1)
    go_ret2
    exact ⟨rfl, HB1.out⟩
end Go.Proofs.Ytmbldnoepjmhhaa.Bs
end
