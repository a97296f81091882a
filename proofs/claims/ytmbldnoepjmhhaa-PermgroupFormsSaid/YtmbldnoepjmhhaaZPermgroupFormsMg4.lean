/- Texts of this claim put together (wip/tools/merge.py). -/
import Derived.Test.YtmbldnoepjmhhaaZPermgroupFormsMg0
import Derived.Test.YtmbldnoepjmhhaaZPermgroupFormsMg1
import Derived.Test.YtmbldnoepjmhhaaZPermgroupFormsSortI
import Derived.Test.YtmbldnoepjmhhaaZPermgroupFormsPAllx0
import Derived.Test.YtmbldnoepjmhhaaZPermgroupFormsMg3
import Derived.Test.YtmbldnoepjmhhaaZPermgroupFormsPRfx1
import Derived.Test.YtmbldnoepjmhhaaZPermgroupFormsPRfx2
import Derived.Test.YtmbldnoepjmhhaaZPermgroupFormsPRfx3
set_option linter.unusedVariables false
set_option linter.unusedSimpArgs false
section
/- The walk of (*Chain).Levels. -/
namespace Go.Proofs.Ytmbldnoepjmhhaa.Bs
open Go.RowKit Go.Sort Go.Shelf Go.Proofs.YtmbldnoepjmhhaaW.PrintWords Go.Proofs.YtmbldnoepjmhhaaW.PrintLast Go.Proofs.YtmbldnoepjmhhaaW.PrintMore Go.Proofs.Ytmbldnoepjmhhaa.Plain Go.Proofs.Ytmbldnoepjmhhaa.PBs Go.Proofs.Ytmbldnoepjmhhaa.PAll
attribute [local go_sem] max2_int min2_int max_two min_two max_three min_three max_four min_four
def wordsL (C : Ch) (k : Nat) : List Int → List (List Int) → Option (List (List Int))
  | [], acc => some acc
  | y :: r, acc => (C.word k y).bind fun o => o.bind fun w => (leastM C 30 (k + 1) w).bind fun u => wordsL C k r (acc ++ [u])
def levelsL (C : Ch) : Nat → Nat → List S71 → Option (List S71)
  | 0, _, _ => none
  | q + 1, k, out => if k < C.n then (C.levels[k]?).bind fun L => if L.orbit.length < 1000 then (if L.orbit.length < 2 then levelsL C q (k + 1) out else if k + 1 < C.n then (wordsL C k (sortInts L.orbit) []).bind fun ws => levelsL C q (k + 1) (out ++ [⟨(k : Int), sortInts L.orbit, ws⟩]) else none) else none
    else some out
def levelsM (C : Ch) : Option (List S71) := levelsL C 30 0 []
def sortI_ren : Go.Shelf.Ren := ⟨fun | 189 => 123 | 125 => 145 | 257 => 144 | 128 => 162 | 129 => 163 | 294 => 153 | 295 => 154 | 296 => 155 | 297 => 156 | 298 => 157 | 299 => 158 | 216 => 159 | 300 => 160 | 301 => 161 | 328 => 174 | 329 => 175 | 330 => 176 | 331 => 177 | 332 => 178 | 215 => 179 | 343 => 183 | n => n, fun | 28 => 25 | 3 => 3 | 46 => 165 | 0 => 0 | 51 => 82 | 53 => 181 | 4 => 4 | 183 => 173 | 182 => 172 | 131 => 110 | 5 => 5 | 9 => 9 | 218 => 188 | 222 => 192 | 228 => 196 | 229 => 197 | n => n, fun | n => n⟩
theorem sortI : Go.Proofs.Lays.n189 Try.prog sortI_ren := ⟨(by kernel_rfl),
  Try.func145.trans (congrArg some (by kernel_rfl)),
  Try.func162.trans (congrArg some (by kernel_rfl)),
  Try.func163.trans (congrArg some (by kernel_rfl)),
  Try.func123.trans (congrArg some (by kernel_rfl)),
  Try.func179.trans (congrArg some (by kernel_rfl)),
  Try.func159.trans (congrArg some (by kernel_rfl)),
  Try.func144.trans (congrArg some (by kernel_rfl)),
  Try.func153.trans (congrArg some (by kernel_rfl)),
  Try.func154.trans (congrArg some (by kernel_rfl)),
  Try.func155.trans (congrArg some (by kernel_rfl)),
  Try.func156.trans (congrArg some (by kernel_rfl)),
  Try.func157.trans (congrArg some (by kernel_rfl)),
  Try.func158.trans (congrArg some (by kernel_rfl)),
  Try.func160.trans (congrArg some (by kernel_rfl)),
  Try.func161.trans (congrArg some (by kernel_rfl)),
  Try.func174.trans (congrArg some (by kernel_rfl)),
  Try.func175.trans (congrArg some (by kernel_rfl)),
  Try.func176.trans (congrArg some (by kernel_rfl)),
  Try.func177.trans (congrArg some (by kernel_rfl)),
  Try.func178.trans (congrArg some (by kernel_rfl)),
  Try.func183.trans (congrArg some (by kernel_rfl)),
  Try.underlying0,
  Try.isAgg0,
  Try.sizeOf0,
  Try.zeroValue0,
  Try.underlying3,
  Try.isAgg3,
  Try.sizeOf3,
  Try.zeroValue3,
  Try.underlying4,
  Try.isAgg4,
  Try.sizeOf4,
  Try.zeroValue4,
  Try.underlying5,
  Try.isAgg5,
  Try.sizeOf5,
  Try.zeroValue5,
  Try.underlying9,
  Try.isAgg9,
  Try.sizeOf9,
  Try.zeroValue9,
  Try.underlying25,
  Try.isAgg25,
  Try.sizeOf25,
  Try.zeroValue25,
  Try.underlying165,
  Try.isAgg165,
  Try.sizeOf165,
  Try.zeroValue165,
  Try.underlying82,
  Try.isAgg82,
  Try.sizeOf82,
  Try.zeroValue82,
  Try.underlying181,
  Try.isAgg181,
  Try.sizeOf181,
  Try.zeroValue181,
  Try.underlying110,
  Try.isAgg110,
  Try.sizeOf110,
  Try.zeroValue110,
  Try.underlying172,
  Try.isAgg172,
  Try.sizeOf172,
  Try.zeroValue172,
  Try.underlying173,
  Try.isAgg173,
  Try.sizeOf173,
  Try.zeroValue173,
  Try.underlying188,
  Try.isAgg188,
  Try.sizeOf188,
  Try.zeroValue188,
  Try.underlying192,
  Try.isAgg192,
  Try.sizeOf192,
  Try.zeroValue192,
  Try.underlying196,
  Try.isAgg196,
  Try.sizeOf196,
  Try.zeroValue196,
  Try.underlying197,
  Try.isAgg197,
  Try.sizeOf197,
  Try.zeroValue197⟩
set_option maxHeartbeats 16000000 in
set_option maxRecDepth 100000 in
theorem levels_any {ρ : Nat → Nat} {w : World} {base c capL : Nat} {la : Option Addr} {C : Ch} {d : Nat → LD} {r : List S71} (hR : ChainAt ρ w base c la capL C d) (h : levelsM C = some r) :
    Calls Try.prog 90 #[.pointer (some ⟨c, 0, none⟩)] w fun e w' => ∃ v', e = .returned v' ∧ Kd.S k71 71 w' w.heap.size (fun _ => True) v' r ∧ Below w.heap.size w w' := by
  have HR := Aside0.mk hR
  have hn := hR.hn
  have hl := hR.hl
  have HSM := Aside0.mk hR.small
  have HCAP := hR.hcap
  have H := Aside0.mk h
  obtain ⟨W0, hW0⟩ : ∃ W0 : World, W0 = w := ⟨_, rfl⟩
  have HS0 : Aside0 (Kd.S k71 71 w W0.heap.size (fun _ => True) (.slice none 0 0) []) := ⟨Kd.S_nil _ _ _ _ _⟩
  clear hR h
  go_enter Try.func90, Try.ntmps90
  go_wp2
  have HW00 : Aside0 (Below W0.heap.size W0 w) := ⟨by rw [hW0]; exact Below.refl _ _⟩
  go_loopg [3, 14] 30 (fun kq v3 v14 w' => ∃ (k : Nat) (out_ : List S71), v14 = .int .i64 (k : Int) ∧ Aside0 (Kd.S k71 71 w' W0.heap.size (fun _ => True) v3 out_) ∧ Aside0 (levelsL C kq k out_ = some r) ∧ Aside0 (Below w.heap.size w w') ∧ Aside0 (k ≤ C.n) ∧ Aside0 (out_.length + kq ≤ 30))
  case atStart => exact ⟨0, [], (by first | rfl | (simp; done)), HS0, H, ⟨Below.refl _ _⟩, ⟨Nat.zero_le _⟩, ⟨by decide⟩⟩
  case round =>
    clear H HS0
    obtain ⟨k, out_, rfl, HS, HA, HB, HK, HOUT⟩ := hrel
    cases gk with
    | zero => exact absurd HA.out (by simp [levelsL])
    | succ q1_ =>
      have h := HA.out
      clear HA
      rw [levelsL] at h
      have R := HR.out.below HB.out
      by_cases hk : k < C.n
      · rw [if_pos hk] at h
        replace h := Option.bind_eq_some_iff.1 h
        obtain ⟨L, hL, h⟩ := h
        have HOL : Aside0 (L.orbit.length < 1000) := by
          by_cases e : L.orbit.length < 1000
          · exact ⟨e⟩
          · rw [if_neg e] at h; cases h
        rw [if_pos HOL.out] at h
        have HKN := Aside0.mk hk
        have HL := Aside0.mk hL
        have hk1 : (k < C.n) = True := eq_true hk
        have hk2 : ((k : Int) < (C.n : Int)) = True := eq_true (by omega)
        have hk3 : (0 ≤ (k : Int)) = True := eq_true (by omega)
        have wk : wrap64 ((k : Int) + 1) = ((k + 1 : Nat) : Int) := (IntWalk.wrap64_in _ ⟨by omega, by have := HSM.out; omega⟩).trans (by omega)
        obtain ⟨bls, ela, _, hcl⟩ := R.ls (by omega)
        subst ela
        have hlev := hcl k hk
        have LV := R.lv k L hL
        have hpt := LV.c0
        obtain ⟨Ao, co, hco, hlo, hCo⟩ := LV.orbit_at
        have HCO := Aside0.mk hCo
        have HLO := Aside0.mk hlo
        have hrow := LV.c2
        obtain ⟨Av, cv, ev⟩ := Kd.R_slice (Kd.S_R HS.out)
        subst ev
        clear hcl hL LV hCo hlo R hk
        by_cases hlt : L.orbit.length < 2
        · rw [if_pos hlt] at h
          have H := Aside0.mk h
          have hlt2 : decide ((L.orbit.length : Int) < 2) = true := decide_eq_true (by omega)
          clear h hlt
          go_wp2
          go_roundg q1_
          case measure => exact Nat.lt_succ_self _
          case rel => exact ⟨k + 1, out_, (by first | (rw [wk]; done) | rfl), HS, H, HB, ⟨HKN.out⟩, ⟨by have := HOUT.out; omega⟩⟩
        · rw [if_neg hlt] at h
          have hlt2 : decide ((L.orbit.length : Int) < 2) = false := decide_eq_false (by omega)
          have HL2 := Aside0.mk (show 2 ≤ L.orbit.length by omega)
          have HK1 : Aside0 (k + 1 < C.n) := by
            by_cases e : k + 1 < C.n
            · exact ⟨e⟩
            · rw [if_neg e] at h; cases h
          rw [if_pos HK1.out] at h
          replace h := Option.bind_eq_some_iff.1 h
          obtain ⟨ws, hws, h⟩ := h
          have H := Aside0.mk h
          have HWS := Aside0.mk hws
          clear h hlt hws
          obtain ⟨wo, hwo⟩ : ∃ wo : World, wo = wr := ⟨_, rfl⟩
          subst hwo
          have HSZ := Aside0.mk HB.out.size
          have hdb : (d k).bl < wo.heap.size := World.block_lt_of_cell? wo _ hpt
          have hdb1 : (d k).bl < wo.heap.size + 1 := Nat.lt_succ_of_lt hdb
          have hdb2 : (d k).bl ≠ wo.heap.size := Nat.ne_of_lt hdb
          have hu66 := Try.underlying71
          go_wp2
          go_cut [6] (fun v6 wx => ∃ (xb : Nat) (A1 : Option Addr) (c1 : Nat), v6 = .pointer (some ⟨xb, 0, none⟩) ∧ Aside0 (wx.heap[xb]? = some (.cells #[.int .i64 (k : Int), .slice A1 L.orbit.length c1, .slice none 0 0] 71 (0, 0))) ∧ Aside0 (Kd.R (Kd.int .i64) 3 wx wo.heap.size (fun _ => True) (.slice A1 L.orbit.length c1) L.orbit) ∧ Aside0 (wo.heap.size ≤ xb) ∧ Aside0 (Below wo.heap.size wo wx))
          case first =>
            go_region_with (go_at_call 122; (refine (clone_any (p := L.orbit) ⟨_, _, rfl, HLO.out, Kd.C_below HCO.out bel0⟩ (by have := HOL.out; omega)).mono ?_); rintro e w1 ⟨v1, rfl, hr1, hb1⟩; have HR1 := Aside0.mk hr1; have HB1 := Aside0.mk (below_step (w := wo) bel0 hb1); have HR1 := Aside0.mk (Kd.R_lower HR1.out (show wo.heap.size ≤ _ from by first | exact Nat.le_refl _ | simp)); have hpt1 := (World.cell?_of_block (w := wo) (w' := w1) (HB1.out.block _ (World.block_lt_of_cell? wo _ hpt))).trans hpt; have hdw : (d k).bl < w1.heap.size := Nat.lt_of_lt_of_le hdb HB1.out.size; have hdw1 : (d k).bl < w1.heap.size + 1 := Nat.lt_succ_of_lt hdw; have hdw2 : (d k).bl ≠ w1.heap.size := Nat.ne_of_lt hdw; obtain ⟨A1, c1, e1⟩ := Kd.R_slice hr1; subst e1; (try (have hkx := Aside0.mk ((hb1.block wo.heap.size (by simp)).trans (blk_new wo (.cells #[.int .i64 0, .slice none 0 0, .slice none 0 0] 71))); have hc0 : w1.cell? ⟨wo.heap.size, 0, none⟩ = some (.int .i64 0) := blk_cell hkx.out 0; have hc1 : w1.cell? ⟨wo.heap.size, 1, none⟩ = some (.slice none 0 0) := blk_cell hkx.out 1; have hc2 : w1.cell? ⟨wo.heap.size, 2, none⟩ = some (.slice none 0 0) := blk_cell hkx.out 2; have hf0 : w1.frozen? ⟨wo.heap.size, 0, none⟩ = false := blk_frozen hkx.out 0; have hf1 : w1.frozen? ⟨wo.heap.size, 1, none⟩ = false := blk_frozen hkx.out 1; have hf2 : w1.frozen? ⟨wo.heap.size, 2, none⟩ = false := blk_frozen hkx.out 2)); clear hr1 hb1)
            all_goals
              go_wp2_with fail
              go_meet
              first
              | exact ⟨_, A1, c1, rfl, ⟨blk_new _ _⟩, ⟨Kd.R_below HR1.out (below_alloc (Below.refl _ _) _)⟩, ⟨HB1.out.size⟩, ⟨below_alloc HB1.out _⟩⟩
              | (have p1 := blk_put hkx.out 0 (.int .i64 (k : Int)) rfl
                 have p2 := blk_put p1 1 (.slice A1 L.orbit.length c1) rfl
                 have p3 := blk_put p2 2 (.slice none 0 0) rfl
                 have hty : ∀ q, q ∈ 3 :: (Kd.int .i64).E → q ≠ 71 := by decide
                 exact ⟨_, A1, c1, rfl, ⟨p3⟩, ⟨Kd.R_set (Kd.R_set (Kd.R_set HR1.out hkx.out hty 0 _) p1 hty 1 _) p2 hty 2 _⟩, ⟨Nat.le_refl _⟩, ⟨((HB1.out.setCell (Nat.le_refl _) _).setCell (Nat.le_refl _) _).setCell (Nat.le_refl _) _⟩⟩)
          case rest =>
            obtain ⟨xb, A1, c1, rfl, HX, HR1, HXB, HBX⟩ := hcut
            have hx0 : wc.cell? ⟨xb, 0, none⟩ = some (.int .i64 (k : Int)) := blk_cell HX.out 0
            have hx1 : wc.cell? ⟨xb, 1, none⟩ = some (.slice A1 L.orbit.length c1) := blk_cell HX.out 1
            have hx2 : wc.cell? ⟨xb, 2, none⟩ = some (.slice none 0 0) := blk_cell HX.out 2
            have HXL := Aside0.mk (World.block_lt_of_cell? wc ⟨xb, 0, none⟩ hx0)
            clear hco hpt hdb hdb1 hdb2
            obtain ⟨sl, hsl⟩ : ∃ sl, sortInts L.orbit = sl := ⟨_, rfl⟩
            have HSL := Aside0.mk (show sl.length = L.orbit.length by rw [← hsl]; exact (sortInts_perm _).length_eq)
            have HE := Aside0.mk hsl
            have hws := HWS.out
            have h9 := H.out
            rw [hsl] at hws h9
            have HWS := Aside0.mk hws
            have H := Aside0.mk h9
            clear hws h9 hsl
            go_wp2_with (go_at_call 123; (refine (sortInts_row sortI (w := wo) (W := wc) HR1.out (Nat.le_refl _) HBX.out (by have := HL2.out; omega) (by have := HOL.out; omega)).mono ?_); rintro e w3 ⟨rfl, hr3, hb3, hk3⟩; rw [HE.out] at hr3; have HR3 := Aside0.mk (Kd.R_mono (Kd.R_bound hr3) (fun b hb => show b < w3.heap.size from hb.2.2.1)); have HXL3 := Aside0.mk (World.block_lt_of_cell? w3 ⟨xb, 0, none⟩ (blk_cell ((hk3 xb HXL.out (Kd.R_ne HR1.out HX.out (by decide))).trans HX.out) 0)); have HB3 := Aside0.mk hb3; have HX3 := Aside0.mk ((hk3 xb HXL.out (Kd.R_ne HR1.out HX.out (by decide))).trans HX.out); have hy0 : w3.cell? ⟨xb, 0, none⟩ = some (.int .i64 (k : Int)) := blk_cell HX3.out 0; have hy1 : w3.cell? ⟨xb, 1, none⟩ = some (.slice A1 L.orbit.length c1) := blk_cell HX3.out 1; clear hr3 hb3 hk3)
            have HS3 := Aside0.mk (Kd.S_step (Kd.S_mono (Kd.S_bound HS.out) (fun b hb => show b < wo.heap.size from hb.2.2.1)) (fun b hb hlt => HB3.out.block b hb))
            go_loopg [44] L.orbit.length (fun kq v44 w' => ∃ (j : Nat) (acc : List (List Int)) (vw : Value), v44 = .int .i64 (j : Int) ∧ Aside0 (w'.heap[xb]? = some (.cells #[.int .i64 (k : Int), .slice A1 L.orbit.length c1, vw] 71 (0, 0))) ∧ Aside0 (Kd.S (Kd.slice 3 (Kd.int .i64)) 49 w' wo.heap.size (fun b => w3.heap.size ≤ b) vw acc) ∧ Aside0 (Kd.R (Kd.int .i64) 3 w' wo.heap.size (fun b => b < w3.heap.size) (.slice A1 L.orbit.length c1) sl) ∧ Aside0 (wordsL C k (sl.drop j) acc = some ws) ∧ Aside0 (Below wo.heap.size wo w') ∧ Aside0 (w3.heap.size ≤ w'.heap.size) ∧ Aside0 (j + kq = L.orbit.length) ∧ Aside0 (acc.length = j))
            case atStart => exact ⟨0, [], _, (by first | rfl | (simp; done)), HX3, ⟨Kd.S_nil _ _ _ _ _⟩, HR3, HWS, HB3, ⟨Nat.le_refl _⟩, ⟨by omega⟩, ⟨rfl⟩⟩
            case round =>
              clear hx0 hx1 hx2 hy0 hy1 HX HR1 HBX HX3 HR3 HWS HB3 HXL
              obtain ⟨j, acc, vw, rfl, HZ, HSW, HRS, HA, HB2, HGE, HJ, HACC⟩ := hrel
              have HXW := Aside0.mk (Nat.lt_of_lt_of_le HXL3.out HGE.out)
              have hz0 : wr.cell? ⟨xb, 0, none⟩ = some (.int .i64 (k : Int)) := blk_cell HZ.out 0
              have hz1 : wr.cell? ⟨xb, 1, none⟩ = some (.slice A1 L.orbit.length c1) := blk_cell HZ.out 1
              obtain ⟨Aw, cw, ew⟩ := Kd.R_slice (Kd.S_R HSW.out)
              subst ew
              have hz2 : wr.cell? ⟨xb, 2, none⟩ = some (.slice Aw acc.length cw) := blk_cell HZ.out 2
              have h := HA.out
              clear HA
              cases gk with
              | zero =>
                have hj : (j < L.orbit.length) = False := eq_false (by have := HJ.out; omega)
                rw [List.drop_eq_nil_of_le (by have := HJ.out; have := HSL.out; omega)] at h
                have h := Option.some.inj h
                subst h
                have HEL : Aside0 (k71.M wr W0.heap.size (fun b => wo.heap.size ≤ b) (⟨(k : Int), sl, acc⟩ : S71) [.int .i64 (k : Int), .slice A1 L.orbit.length c1, .slice Aw acc.length cw]) := ⟨k71_mkM wr W0.heap.size (fun b => wo.heap.size ≤ b) ⟨(k : Int), sl, acc⟩ (Kd.R_lower (Kd.R_mono (Kd.R_bound HRS.out) (fun b hb => hb.2.1)) (by rw [hW0]; exact HSZ.out)) (Kd.R_lower (Kd.R_mono (Kd.R_bound (Kd.S_R HSW.out)) (fun b hb => hb.2.1)) (by rw [hW0]; exact HSZ.out))⟩
                have HSO := Aside0.mk (Kd.S_step (Kd.S_mono (Kd.S_bound HS.out) (fun b hb => show b < wo.heap.size from hb.2.2.1)) (fun b hb hlt => HB2.out.block b hb))
                go_wp2_with ((with_reducible refine gate_builtin (b := .append) (xs := #[.tmp 65, .tmp 67]) rfl ?_); at_builtin; refine Kd.S_append k71 (w0 := w) (W := wr) W0.heap.size rfl (.tmp 65) (.tmp 67) 59 71 (.agg #[(.int .i64 0), (.slice none 0 0), (.slice none 0 0)]) 56 rfl Try.underlying59 info71 rfl (by decide) (by omega) (.slice Av out_.length cv) out_ (⟨(k : Int), sl, acc⟩ : S71) [.int .i64 (k : Int), .slice A1 L.orbit.length c1, .slice Aw acc.length cw] (fun _ => True) (fun b => wo.heap.size ≤ b) rfl ?aX HEL.out ?aK (fun _ _ => trivial) ?aO ?aB ?aS ?aL ?_; (case aX => show Value.slice (some ⟨wr.heap.size, 0, none⟩) 1 1 = _; simp); (case aK => exact fun b hb => ⟨trivial, fun e => by have h8 : b < wo.heap.size := (Kd.S_R HSO.out).1 b e.symm; omega⟩); (case aO => exact Kd.S_mono HSO.out (fun b hb => ⟨trivial, Nat.not_le.2 hb⟩)); (case aB => rw [hW0]; exact below_step HB.out HB2.out); (case aS => rw [hW0]; exact (below_step HB.out HB2.out).size); (case aL => have := HOUT.out; omega); intro v1 w1 ho hb hg hat; obtain ⟨Ao1, co1, eo1⟩ := Kd.R_slice (Kd.S_R ho); subst eo1; have el : (out_ ++ [(⟨(k : Int), sl, acc⟩ : S71)]).length = out_.length + 1 := (by simp); rw [el] at ho; have HO1 := Aside0.mk ho; rw [hW0] at hb; have HB9 := Aside0.mk hb; have HEL2 := Aside0.mk el; clear ho hg hat hb el)
                go_roundg q1_
                case measure => exact Nat.lt_succ_self _
                case rel => exact ⟨k + 1, _, (by first | (rw [wk]; done) | rfl), HO1, H, HB9, ⟨HKN.out⟩, ⟨by rw [HEL2.out]; have := HOUT.out; omega⟩⟩
              | succ m1 =>
                have HHL : Aside0 ((acc.length + 1) * 24 ≤ 140737488355328) := ⟨by have := HACC.out; have := HJ.out; have := HOL.out; omega⟩
                have hjl : j < sl.length := by have := HJ.out; have := HSL.out; omega
                have hj : (j < L.orbit.length) = True := eq_true (by have := HSL.out; omega)
                have hj2 : ((j : Int) < (L.orbit.length : Int)) = True := eq_true (by have := HSL.out; omega)
                have hj0 : (0 ≤ (j : Int)) = True := eq_true (by omega)
                have HJ2 : Aside0 (j + 1 + m1 = L.orbit.length) := ⟨by have := HJ.out; omega⟩
                rw [List.drop_eq_getElem_cons hjl, wordsL] at h
                replace h := Option.bind_eq_some_iff.1 h
                obtain ⟨o, hw, h⟩ := h
                replace h := Option.bind_eq_some_iff.1 h
                obtain ⟨wd, ho, h⟩ := h
                subst ho
                replace h := Option.bind_eq_some_iff.1 h
                obtain ⟨u, h2, h⟩ := h
                obtain ⟨x0, L_, hL_, ho⟩ := word_some hw
                have RW := HR.out.below (below_step HB.out HB2.out)
                have LV_ := RW.lv k L_ hL_
                obtain ⟨X, hX⟩ : ∃ X : Nat, sl[j] = (X : Int) := ⟨sl[j].toNat, by omega⟩
                rw [hX, Int.toNat_natCast] at ho
                obtain ⟨hxn, wv, hv, _, hwd⟩ := LV_.word ho
                obtain ⟨aw_, cw_, ew, hcw, hCw⟩ := hwd.1.addr hwd.2
                rw [ew] at hv
                have hrow := LV_.c2
                have q1 : (0 ≤ (X : Int)) = True := eq_true (by omega)
                have q2 : ((X : Int) < (C.n : Int)) = True := eq_true (by omega)
                obtain ⟨_, _, eR, _, hCR⟩ := Kd.R_reads HRS.out
                injection eR with e1 e2 e3
                subst e1; subst e3
                clear e2
                obtain ⟨adr, er, hcr⟩ := Kd.at_int hCR (j : Int) (by omega) (by omega)
                rw [rd_get _ _ hjl, hX, Int.toNat_natCast] at hcr
                subst er
                have A2 := Aside0.mk h2
                have H2 := Aside0.mk h
                have HPW := Aside0.mk (show PermAt wr (.slice (some aw_) wd.length cw_) wd from ⟨_, _, rfl, hcw, hCw⟩)
                have wk2 : IntKind.i64.wrap ((k : Int) + 1) = ((k + 1 : Nat) : Int) := (IntWalk.i64_in _ (by have := HKN.out; have := HSM.out; omega)).trans (by omega)
                have wi : wrap64 ((j : Int) + 1) = ((j + 1 : Nat) : Int) := (IntWalk.wrap64_in _ ⟨by omega, by have := HOL.out; have := HSL.out; omega⟩).trans (by omega)
                have hxw : xb < wr.heap.size := HXW.out
                clear h h2 hwd ho hL_ LV_ hw ew RW hX hCR hcw hCw
                go_wp2
                go_region_law (first
                  | (refine Kd.S_append_step (Kd.slice 3 (Kd.int .i64)) (w0 := wo) wo.heap.size (by rfl) (.tmp 49) (.tmp 61) 35 49 (.slice none 0 0) 24 rfl Try.underlying35 info49 rfl (by decide) (by omega) (.slice Aw acc.length cw) acc u [.slice A6 u.length c6] (fun b => w3.heap.size ≤ b) (fun b => some b = (Value.slice A6 u.length c6).ownBlock) ?hs ?hx ?hp ?hokp ?hf ?hO ?hB ?hb ?hl ?_; (case hs => exact rfl); (case hx => exact rfl); (case hp => exact ⟨_, rfl, Kd.R_tight rfl HR6.out⟩); (case hokp => exact (fun b hb => HN6.out b hb)); (case hf => exact (fun b hb => Nat.le_trans (Nat.le_trans HGE.out HB6.out.size) hb)); (case hO => exact HS6.out); (case hB => exact (below_step HB2.out HB6.out)); (case hb => exact (below_step HB2.out HB6.out).size); (case hl => exact HHL.out); intro v1 w1 ho hb hg hat; have HZ1 := Aside0.mk ((hg.block xb (Nat.lt_of_lt_of_le HXW.out HB6.out.size) HNX.out).trans HZ6.out); have ha0 : w1.cell? ⟨xb, 2, none⟩ = some (.slice Aw acc.length cw) := blk_cell HZ1.out 2; have hf0 : w1.frozen? ⟨xb, 2, none⟩ = false := blk_frozen HZ1.out 2; have HR9 := Aside0.mk (Kd.R_step HRS6.out (fun b hb2 hlt => hg.block b hlt (fun e => Nat.lt_irrefl b (Nat.lt_of_lt_of_le (show b < w3.heap.size from hb2) (HVW.out b e.symm))))); have el : (acc ++ [u]).length = acc.length + 1 := (by simp); obtain ⟨Ao1, co1, eo1⟩ := Kd.R_slice (Kd.S_R ho); subst eo1; rw [el] at ho ⊢; have HO1 := Aside0.mk ho; have HB9 := Aside0.mk hb; have HGE9 := Aside0.mk (Nat.le_trans (Nat.le_trans HGE.out HB6.out.size) hg.size); clear ho hg hat hb el)
                  | (go_simp; go_at_call 124; (refine (least_any (HR.out.below (below_step HB.out (below_step HB2.out (w2 := _) bel0))) (HPW.out.below bel0) HK1.out 30 (Nat.le_refl _) A2.out).mono ?_); rintro e w6 ⟨v6, rfl, hr6, hb6⟩; have HB6 := Aside0.mk (below_step (w := wr) bel0 hb6); have hr7 := Kd.R_lower hr6 (show wr.heap.size ≤ _ from by first | exact Nat.le_refl _ | simp); obtain ⟨A6, c6, e6⟩ := Kd.R_slice hr7; subst e6; have HR6 := Aside0.mk (Kd.R_lower hr7 HB2.out.size); have HN6 : Aside0 (∀ b, some b = (Value.slice A6 u.length c6).ownBlock → w3.heap.size ≤ b ∧ some b ≠ (Value.slice Aw acc.length cw).ownBlock) := ⟨fun b hb => ⟨Nat.le_trans HGE.out (Kd.R_base hr7 b hb.symm), fun e => by have h1 := Kd.R_base hr7 b hb.symm; have h2 := Kd.R_lt (Kd.S_R HSW.out) b e.symm; omega⟩⟩; have HVW : Aside0 (∀ b, (Value.slice Aw acc.length cw).ownBlock = some b → w3.heap.size ≤ b) := ⟨fun b hb => (Kd.S_R HSW.out).1 b hb⟩; have HNX : Aside0 (some xb ≠ (Value.slice Aw acc.length cw).ownBlock) := ⟨fun e => by have h1 := HVW.out xb e.symm; have h2 := HXL3.out; omega⟩; have HS6 := Aside0.mk (Kd.S_mono (ok' := fun b => w3.heap.size ≤ b ∧ ¬ some b = (Value.slice A6 u.length c6).ownBlock) (Kd.S_step (w1 := w6) (Kd.S_mono (ok' := fun b => w3.heap.size ≤ b ∧ b < wr.heap.size) (Kd.S_bound HSW.out) (fun b hb => ⟨hb.1, hb.2.2.1⟩)) (fun b hb hlt => HB6.out.block b hb.2)) (fun b hb => ⟨hb.1, fun e => Nat.lt_irrefl b (Nat.lt_of_lt_of_le hb.2 (Kd.R_base hr7 b e.symm))⟩)); have HRS6 := Aside0.mk (Kd.R_below HRS.out HB6.out); have HZ6 := Aside0.mk ((HB6.out.block xb HXW.out).trans HZ.out); have hz26 : w6.cell? ⟨xb, 2, none⟩ = some (.slice Aw acc.length cw) := blk_cell HZ6.out 2; have hxw6 : xb < w6.heap.size := Nat.lt_of_lt_of_le HXW.out HB6.out.size; have hxn6 : xb ≠ w6.heap.size := Nat.ne_of_lt hxw6; clear hr6 hb6 hr7))
                all_goals
                  have p2 := blk_put HZ1.out 2 (.slice Ao1 (acc.length + 1) co1) rfl
                  have hty3 : ∀ q, q ∈ 3 :: (Kd.int .i64).E → q ≠ 71 := by decide
                  have hty47 : ∀ q, q ∈ 49 :: (Kd.slice 3 (Kd.int .i64)).E → q ≠ 71 := by decide
                  have S9 := Kd.S_set HO1.out HZ1.out hty47 2 (.slice Ao1 (acc.length + 1) co1)
                  have R9 := Kd.R_set HR9.out HZ1.out hty3 2 (.slice Ao1 (acc.length + 1) co1)
                  go_wp2
                  go_roundg m1
                  case measure => exact Nat.lt_succ_self _
                  case rel => exact ⟨j + 1, acc ++ [u], _, (by first | (rw [wi]; done) | rfl), ⟨p2⟩, ⟨S9⟩, ⟨R9⟩, H2, ⟨HB9.out.setCell HXB.out _⟩, ⟨by simpa using HGE9.out⟩, HJ2, ⟨by rw [List.length_append, HACC.out]; rfl⟩⟩
      · rw [if_neg hk] at h
        cases h
        have hk1 : (k < C.n) = False := eq_false hk
        obtain ⟨Av, cv, ev⟩ := Kd.R_slice (Kd.S_R HS.out)
        subst ev
        clear R hk
        go_wp2
        go_ret
        exact ⟨_, rfl, (by rw [← hW0]; exact HS.out), HB.out⟩
end Go.Proofs.Ytmbldnoepjmhhaa.Bs
end
section
/- The function Chain of package permgroup. -/
namespace Go.Proofs.Ytmbldnoepjmhhaa.Bs
open Go.RowKit Go.Sort Go.Shelf Go.Proofs.YtmbldnoepjmhhaaW.PrintWords Go.Proofs.YtmbldnoepjmhhaaW.PrintLast Go.Proofs.YtmbldnoepjmhhaaW.PrintMore Go.Proofs.Ytmbldnoepjmhhaa.Plain Go.Proofs.Ytmbldnoepjmhhaa.PBs Go.Proofs.Ytmbldnoepjmhhaa.PAll
attribute [local go_sem] max2_int min2_int max_two min_two max_three min_three max_four min_four
def permgroup_Chain.f (k : Nat) (a0_0 : Int) (l0_1 : List (List Int)) : Option (List S71 × Int) := (permgroup_Check.f k a0_0 l0_1).bind fun e => if e = 0 then (if 0 ≤ a0_0 ∧ a0_0 ≤ 20 then (new_ a0_0.toNat l0_1).bind fun C => (levelsM C).bind fun r => some (r, 0) else none) else some ([], e)
theorem permgroup_Chain.mono : ∀ a0_0 l0_1 k, LeO (permgroup_Chain.f k a0_0 l0_1) (permgroup_Chain.f (k + 1) a0_0 l0_1) := fun a0_0 l0_1 k => LeO.bind (permgroup_Check.mono _ _ _) (fun _ => LeO.refl _)
set_option maxHeartbeats 4000000 in
set_option maxRecDepth 100000 in
theorem permgroup_Chain.calls (k : Nat) (a0_0 : Int) (A0_1 : Option Addr) (c0_1 : Nat) (l0_1 : List (List Int)) (r1 : List S71) (r2 : Int) (w : World) (hr0_1 : Kd.C (Kd.slice 3 (Kd.int .i64)) w A0_1 l0_1.length l0_1) (hc0_1 : l0_1.length ≤ c0_1) (h : permgroup_Chain.f k a0_0 l0_1 = some (r1, r2)) :
    Calls Try.prog 32 #[.agg #[.int .i64 a0_0, .slice A0_1 l0_1.length c0_1]] w fun e w' => ∃ v0_ : Value, e = .returned (.tuple #[v0_, .int .i64 r2]) ∧ Kd.R k71 71 w' w.heap.size (fun _ => True) v0_ r1 ∧ Below w.heap.size w w' := by
  have hu := Try.underlying37
  have HC := Aside0.mk hc0_1
  have HG := Aside0.mk (Kd.C_below hr0_1 (below_alloc (Below.refl w.heap.size w) (.cells #[.int .i64 a0_0, .slice A0_1 l0_1.length c0_1] 37)))
  unfold permgroup_Chain.f at h
  replace h := Option.bind_eq_some_iff.1 h
  obtain ⟨e, h1, h⟩ := h
  have A1 := Aside0.mk h1
  clear hr0_1 hc0_1 h1
  by_cases e0 : e = 0
  · rw [if_pos e0] at h
    have hr : 0 ≤ a0_0 ∧ a0_0 ≤ 20 := by
      by_cases hr : 0 ≤ a0_0 ∧ a0_0 ≤ 20
      · exact hr
      · rw [if_neg hr] at h; cases h
    rw [if_pos hr] at h
    obtain ⟨n, rfl⟩ : ∃ n : Nat, a0_0 = (n : Int) := ⟨a0_0.toNat, by omega⟩
    rw [Int.toNat_natCast] at h
    replace h := Option.bind_eq_some_iff.1 h
    obtain ⟨C, h2, h⟩ := h
    replace h := Option.bind_eq_some_iff.1 h
    obtain ⟨r, h3, h⟩ := h
    obtain ⟨rfl, rfl⟩ := Prod.mk.inj (Option.some.inj h)
    have A2 := Aside0.mk h2
    have A3 := Aside0.mk h3
    have HN : Aside0 (n ≤ 20) := ⟨by omega⟩
    subst e0
    clear h h2 hr h3
    go_enter Try.func32, Try.ntmps32
    go_wp2_with (first
      | (go_at_call 33; (refine (permgroup_Check.calls k (n : Int) A0_1 c0_1 l0_1 0 _ HG.out HC.out A1.out).mono ?_); rintro e w1 ⟨rfl, hb1⟩; have HB1 := Aside0.mk (below_step (w := w) (below_alloc (Below.refl _ _) _) hb1); have HG1 := Aside0.mk (Kd.C_below HG.out hb1); have hcx := cell_move (w' := w1) (show (w.alloc (.cells #[.int .i64 (n : Int), .slice A0_1 l0_1.length c0_1] 37)).cell? ⟨w.heap.size, 0, none⟩ = some (.int .i64 (n : Int)) from by rw [World.cell?_alloc_at _ _ _ _ rfl]; rfl) (fun hlt => hb1.block _ hlt); have hcy := cell_move (w' := w1) (show (w.alloc (.cells #[.int .i64 (n : Int), .slice A0_1 l0_1.length c0_1] 37)).cell? ⟨w.heap.size, 1, none⟩ = some (.slice A0_1 l0_1.length c0_1) from by rw [World.cell?_alloc_at _ _ _ _ rfl]; rfl) (fun hlt => hb1.block _ hlt); clear hb1)
      | (go_at_call 86; (refine (chain_any n HN.out l0_1 A0_1 c0_1 _ HG1.out HC.out C A2.out).mono ?_); rintro e w2 ⟨c, la, capL, ρ, d, rfl, hCh, hb2⟩; have HCh := Aside0.mk hCh; have HB2 := Aside0.mk (below_step HB1.out hb2); clear hCh hb2)
      | (go_at_call 90; (refine (levels_any HCh.out A3.out).mono ?_); rintro e w3 ⟨v3, rfl, hs3, hb3⟩; have HS3 := Aside0.mk (Kd.S_lower hs3 HB2.out.size); have HB3 := Aside0.mk (below_step HB2.out hb3); obtain ⟨A3_, c3_, e3_⟩ := Kd.R_slice (Kd.S_R hs3); subst e3_; clear hb3 hs3))
    go_ret2
    exact ⟨_, rfl, Kd.S_R HS3.out, HB3.out⟩
  · rw [if_neg e0] at h
    obtain ⟨rfl, rfl⟩ := Prod.mk.inj (Option.some.inj h)
    have e1 : (e == 0) = false := beq_eq_false_iff_ne.mpr e0
    have e2 : (e != 0) = true := bne_iff_ne.mpr e0
    clear h e0
    go_enter Try.func32, Try.ntmps32
    go_wp2_with (go_at_call 33; (refine (permgroup_Check.calls k a0_0 A0_1 c0_1 l0_1 e _ HG.out HC.out A1.out).mono ?_); rintro e' w1 ⟨rfl, hb1⟩; have HB1 := Aside0.mk (below_step (w := w) (below_alloc (Below.refl _ _) _) hb1); clear hb1)
    go_ret2
    exact ⟨_, rfl, Kd.R_nil _ _ _ _ _, HB1.out⟩
end Go.Proofs.Ytmbldnoepjmhhaa.Bs
end
section
/- Groups of permutations as the law functions meet them: checks, orders, conjugates, subgroups. -/
namespace Go.Proofs.Ytmbldnoepjmhhaa.Pms
open Go.RowKit Go.Proofs.Ytmbldnoepjmhhaa.Plain Go.Proofs.Ytmbldnoepjmhhaa.Bs Go.Proofs.YtmbldnoepjmhhaaW.PrintWords
variable {n : Nat}
theorem chkE_zero {m : Int} {p : List Int} (h : chkE m p = 0) : ∃ (k : Nat) (q : Pm k), m = (k : Int) ∧ k ≤ 20 ∧ q.l = p := by
  unfold chkE at h
  by_cases h1 : chk p = 0
  · rw [if_pos h1] at h
    by_cases h2 : (p.length : Int) = m
    · obtain ⟨hl, hp⟩ := (chk_zero p).1 h1
      exact ⟨p.length, ⟨p, rfl, hp⟩, h2.symm, hl, rfl⟩
    · rw [if_neg h2] at h; omega
  · rw [if_neg h1] at h; exact absurd h h1
theorem chkE_Pm (hn : n ≤ 20) (p : Pm n) : chkE (n : Int) p.l = 0 := by
  unfold chkE
  rw [if_pos ((chk_zero _).2 ⟨by rw [p.len]; exact hn, p.ok⟩), if_pos (by rw [p.len])]
theorem chkE_to {p : List Int} (h : chkE (n : Int) p = 0) : ∃ q : Pm n, q.l = p := by
  obtain ⟨k, q, e, _, h2⟩ := chkE_zero h
  have e : n = k := by omega
  subst e
  exact ⟨q, h2⟩
theorem chkAll_to : ∀ {L : List (List Int)}, chkAll (n : Int) L = 0 → ∃ gens : List (Pm n), gens.map Pm.l = L
  | [], _ => ⟨[], rfl⟩
  | p :: r, h => by
    rw [chkAll] at h
    by_cases h1 : chkE (n : Int) p = 0
    · rw [if_pos h1] at h
      obtain ⟨q, hq⟩ := chkE_to h1
      obtain ⟨g, hg⟩ := chkAll_to h
      exact ⟨q :: g, by rw [List.map_cons, hq, hg]⟩
    · rw [if_neg h1] at h; exact absurd h h1
theorem chkAll_Pm (hn : n ≤ 20) : ∀ gens : List (Pm n), chkAll (n : Int) (gens.map Pm.l) = 0
  | [] => rfl
  | p :: r => by rw [List.map_cons, chkAll, if_pos (chkE_Pm hn p)]; exact chkAll_Pm hn r
theorem chkG_to {d : Int} {L : List (List Int)} (h : chkG d L = 0) : ∃ (n : Nat) (gens : List (Pm n)), d = (n : Int) ∧ n ≤ 20 ∧ gens.map Pm.l = L ∧ L.length ≤ 32 := by
  unfold chkG at h
  split at h
  · cases h
  · split at h
    · cases h
    · split at h
      · cases h
      · obtain ⟨k, rfl⟩ : ∃ k : Nat, d = (k : Int) := ⟨d.toNat, by omega⟩
        obtain ⟨g, hg⟩ := chkAll_to h
        exact ⟨k, g, rfl, by omega, hg, by omega⟩
theorem chkG_Pm (hn : n ≤ 20) (gens : List (Pm n)) (hl : gens.length ≤ 32) : chkG (n : Int) (gens.map Pm.l) = 0 := by
  unfold chkG
  rw [if_neg (by omega), if_neg (by omega), if_neg (by rw [List.length_map]; omega)]
  exact chkAll_Pm hn gens
theorem grp_spec (hn : n ≤ 20) (gens : List (Pm n)) : ∃ (A : AC n) (E : List (Pm n)), new_ n (gens.map Pm.l) = some A.enc ∧ Bs.Good A (Gen gens) ∧ E.Pairwise Lt ∧ (∀ p, p ∈ E ↔ Gen gens p) ∧ belowF A.enc 0 = (E.length : Int) ∧ (E.length < 100000 → elements A.enc = some (E.map Pm.l)) := by
  obtain ⟨A, h1, h2⟩ := new_spec hn gens
  obtain ⟨E, e1, e2, e3, e4⟩ := elements_spec hn h2
  exact ⟨A, E, h1, h2, e1, e2, e3, e4⟩
theorem Lt.nodup {E : List (Pm n)} (h : E.Pairwise Lt) : E.Nodup := h.imp (fun {a b} hab e => by subst e; exact Lt.irrefl a hab)
end Go.Proofs.Ytmbldnoepjmhhaa.Pms
end
section
/- Levels: what the levels of a chain hold. No program in sight. -/
namespace Go.Proofs.Ytmbldnoepjmhhaa.Bs
open Go.RowKit Go.Proofs.YtmbldnoepjmhhaaW.PrintWords Go.Proofs.Ytmbldnoepjmhhaa.Plain Go.Proofs.Ytmbldnoepjmhhaa.Pms Go.Proofs.Ytmbldnoepjmhhaa.PAll
variable {n : Nat}
theorem sortInts_ints {A : AC n} (h : Inv A) {k : Nat} (hk : k < n) : sortInts (ints (A.O k)) = ints (sortO A k 1) := by
  refine key_unique (fun x => x) (fun x _ y _ e => e) ((sortInts_perm _).trans ((sortO_perm A k 1).map _).symm) (sortInts_sorted _) ?_
  unfold ints
  rw [List.pairwise_map]
  refine List.Pairwise.imp_of_mem ?_ (sortO_sorted A k 1)
  intro a b ha hb hab
  have la := orb_lt h hk ((sortO_perm A k 1).subset ha)
  have lb := orb_lt h hk ((sortO_perm A k 1).subset hb)
  rw [Pm.one_ap la, Pm.one_ap lb] at hab
  omega
def lst (A : AC n) (k : Nat) (t : Pm n) : Pm n := (El A (n - k) k t).headD 1
def tt (A : AC n) (k y : Nat) : Pm n := (A.T k y).getD 1
def lvAt (A : AC n) (k : Nat) : S71 := ⟨(k : Int), ints (sortO A k 1), (sortO A k 1).map fun y => (lst A (k + 1) (tt A k y)).l⟩
def lvs (A : AC n) : Nat → Nat → List S71
  | 0, _ => []
  | d + 1, k => if (A.O k).length < 2 then lvs A d (k + 1) else lvAt A k :: lvs A d (k + 1)
theorem least_lst {A : AC n} (hn : n ≤ 20) (h : Inv A) {k : Nat} (hk : k ≤ n) (t : Pm n) : leastM A.enc 30 k t.l = some (lst A k t).l := by
  obtain ⟨m, r, e1, e2⟩ := least_spec hn h (n - k) k 30 t rfl hk (by omega)
  rw [e2, lst, e1]; rfl
theorem wordsL_spec {A : AC n} (hn : n ≤ 20) (h : Inv A) {k : Nat} (hk : k < n) : ∀ (l : List Nat) (acc : List (List Int)), (∀ y ∈ l, y ∈ A.O k) → wordsL A.enc k (ints l) acc = some (acc ++ l.map fun y => (lst A (k + 1) (tt A k y)).l)
  | [], acc, _ => by simp [ints, wordsL]
  | y :: r, acc, hl => by
    have hy := hl y List.mem_cons_self
    cases ht : A.T k y with
    | none => exact absurd ht ((h.orb k y hk).1 hy)
    | some t =>
      show ((A.enc.word k (y : Int)).bind fun o => o.bind fun w => (leastM A.enc 30 (k + 1) w).bind fun u => wordsL A.enc k (ints r) (acc ++ [u])) = _
      rw [A.word_at hk (orb_lt h hk hy), ht]
      simp only [Option.map_some, Option.bind_some]
      rw [least_lst hn h (by omega), Option.bind_some, wordsL_spec hn h hk r _ (fun z hz => hl z (List.mem_cons_of_mem _ hz)), List.append_assoc, List.map_cons]
      have : tt A k y = t := by unfold tt; rw [ht]; rfl
      rw [this]; rfl
theorem levelsL_spec {A : AC n} (hn : n ≤ 20) (h : Inv A) : ∀ (d k q : Nat) (out : List S71), n - k = d → d < q → levelsL A.enc q k out = some (out ++ lvs A d k)
  | 0, k, q, out, hd, hq => by
    obtain ⟨q, rfl⟩ : ∃ m, q = m + 1 := ⟨q - 1, by omega⟩
    rw [levelsL, if_neg (show ¬ k < A.enc.n from (by omega : ¬ k < n)), lvs, List.append_nil]
  | d + 1, k, q, out, hd, hq => by
    obtain ⟨q, rfl⟩ : ∃ m, q = m + 1 := ⟨q - 1, by omega⟩
    have hkn : k < n := by omega
    have hll : (A.lv k).orbit.length = (A.O k).length := by simp [AC.lv, ints]
    have hol := orb_len h hkn
    have hle := orb_le h hkn
    rw [levelsL, if_pos (show k < A.enc.n from hkn), A.level hkn, Option.bind_some, if_pos (by omega), hll, lvs]
    by_cases h2 : (A.O k).length < 2
    · rw [if_pos h2, if_pos h2]; exact levelsL_spec hn h d (k + 1) q out (by omega) (by omega)
    · rw [if_neg h2, if_neg h2, if_pos (show k + 1 < A.enc.n from (by omega : k + 1 < n)), show (A.lv k).orbit = ints (A.O k) from rfl, sortInts_ints h hkn, wordsL_spec hn h hkn _ _ (fun y hy => (sortO_perm A k 1).subset hy), Option.bind_some, levelsL_spec hn h d (k + 1) q _ (by omega) (by omega), List.append_assoc]
      rfl
theorem levels_spec {A : AC n} (hn : n ≤ 20) (h : Inv A) : levelsM A.enc = some (lvs A n 0) := by
  have := levelsL_spec hn h n 0 30 [] rfl (by omega)
  rwa [List.nil_append] at this
end Go.Proofs.Ytmbldnoepjmhhaa.Bs
end
section
/- What the walked functions of package permgroup come to. -/
namespace Go.Proofs.Ytmbldnoepjmhhaa.QGr
open Go.RowKit Go.Proofs.YtmbldnoepjmhhaaW.PrintWords Go.Proofs.Ytmbldnoepjmhhaa.Plain Go.Proofs.Ytmbldnoepjmhhaa.Pms Go.Proofs.Ytmbldnoepjmhhaa.Bs Go.Proofs.Ytmbldnoepjmhhaa.PBs
theorem permgroup_Order.ev {n : Nat} (hn : n ≤ 20) (S : List (Pm n)) (hS : S.length ≤ 32) : ∃ E : List (Pm n), E.Pairwise Lt ∧ (∀ p, p ∈ E ↔ Gen S p) ∧ Ev (fun k => Bs.permgroup_Order.f k (n : Int) (S.map Pm.l)) ((E.length : Int), 0) := by
  obtain ⟨A, E, h1, h2, e1, e2, e3, e4⟩ := grp_spec hn S
  refine ⟨E, e1, e2, ?_⟩
  refine Ev.congr (f := fun k => (permgroup_Check.f k (n : Int) (S.map Pm.l)).bind fun e => if e = 0 then (if 0 ≤ (n : Int) ∧ (n : Int) ≤ 20 then (new_ (n : Int).toNat (S.map Pm.l)).bind fun C => some (belowF C 0, 0) else none) else some (0, e)) (fun k => rfl) ?_
  refine Ev.bind (QBs.permgroup_Check.ev _ _) ?_
  rw [chkG_Pm hn S hS, if_pos rfl, if_pos ⟨by omega, by omega⟩, Int.toNat_natCast, h1]
  show Ev (fun _ => some (belowF A.enc 0, (0 : Int))) _
  rw [e3]
  exact Ev.now _
theorem permgroup_Index.ev {n : Nat} (hn : n ≤ 20) (S : List (Pm n)) (hS : S.length ≤ 32) {E : List (Pm n)} (hE : E.Pairwise Lt) (hG : ∀ p, p ∈ E ↔ Gen S p) (p : Pm n) : Ev (fun k => Bs.permgroup_Index.f k (n : Int) (S.map Pm.l) p.l) (if p ∈ E then (((E.idxOf p : Nat) : Int), 0) else (0, 28)) := by
  obtain ⟨A, h1, h2⟩ := new_spec hn S
  have hEl := el_all h2 hE hG
  refine Ev.congr (f := fun k => (permgroup_with.f k (n : Int) (S.map Pm.l) p.l).bind fun e => if e = 0 then (if 0 ≤ (n : Int) ∧ (n : Int) ≤ 20 then (new_ (n : Int).toNat (S.map Pm.l)).bind fun C => (indexM C p.l).bind fun b => if b.2 = true then some (b.1, 0) else some (0, 28) else none) else some (0, e)) (fun k => rfl) ?_
  refine Ev.bind (QBs.permgroup_with.ev _ _ _) ?_
  rw [if_pos (chkG_Pm hn S hS), chkE_Pm hn p, if_pos rfl, if_pos ⟨by omega, by omega⟩, Int.toNat_natCast, h1]
  show Ev (fun _ => (indexM A.enc p.l).bind fun b => if b.2 = true then some (b.1, (0 : Int)) else some (0, 28)) _
  have hi := index_spec hn h2.inv p n 0 30 0 1 rfl (Nat.zero_le _) (by omega) (fun i hi => by omega) (by have := ordN_le h2.inv n 0 rfl; have := fact_small (d := n) (by omega); omega)
  rw [hEl] at hi
  have hm : indexM A.enc p.l = indexL A.enc p.l 30 0 (1 : Pm n).l ((0 : Nat) : Int) := rfl
  rw [hm, hi]
  by_cases hp : p ∈ E
  · rw [if_pos hp, if_pos hp, Nat.zero_add]; exact Ev.now _
  · rw [if_neg hp, if_neg hp]; exact Ev.now _
theorem permgroup_Chain.ev {n : Nat} (hn : n ≤ 20) (S : List (Pm n)) (hS : S.length ≤ 32) : ∃ A : AC n, Bs.Good A (Gen S) ∧ Ev (fun k => Bs.permgroup_Chain.f k (n : Int) (S.map Pm.l)) (lvs A n 0, 0) := by
  obtain ⟨A, E, h1, h2, e1, e2, e3, e4⟩ := grp_spec hn S
  refine ⟨A, h2, ?_⟩
  refine Ev.congr (f := fun k => (permgroup_Check.f k (n : Int) (S.map Pm.l)).bind fun e => if e = 0 then (if 0 ≤ (n : Int) ∧ (n : Int) ≤ 20 then (new_ (n : Int).toNat (S.map Pm.l)).bind fun C => (levelsM C).bind fun r => some (r, 0) else none) else some ([], e)) (fun k => rfl) ?_
  refine Ev.bind (QBs.permgroup_Check.ev _ _) ?_
  rw [chkG_Pm hn S hS, if_pos rfl, if_pos ⟨by omega, by omega⟩, Int.toNat_natCast, h1]
  show Ev (fun _ => (levelsM A.enc).bind fun r => some (r, (0 : Int))) _
  rw [levels_spec hn h2.inv]
  exact Ev.now _
end Go.Proofs.Ytmbldnoepjmhhaa.QGr
end
section
/- What the printed functions come to: each in plain words (loops by induction). -/
namespace Go.Proofs.Ytmbldnoepjmhhaa.QRf
open Go.RowKit Go.Proofs.Ytmbldnoepjmhhaa.PRf Go.Proofs.YtmbldnoepjmhhaaW.PrintWords Go.Proofs.YtmbldnoepjmhhaaW.PrintLast Go.Proofs.Ytmbldnoepjmhhaa.Plain
theorem galoisref22_Same.l_ev (a b : List Int) (hl : a.length = b.length) (hn : a.length < 4611686018427387904) : ∀ (d i : Nat), a.length - i = d → i ≤ a.length →
    Ev (fun k => galoisref22_Same.l0 k a b (i : Int)) (decide (a.drop i = b.drop i)) := by
  intro d
  induction d with
  | zero =>
    intro i hd hi
    rw [List.drop_eq_nil_of_le (by omega : a.length ≤ i), List.drop_eq_nil_of_le (by omega : b.length ≤ i)]
    refine Ev.step (f := fun _ => some true) (fun k => ?_) (Ev.now _)
    simp only [galoisref22_Same.l0]
    rw [if_neg (by omega)]
  | succ d ih =>
    intro i hd hi
    have ha : i < a.length := by omega
    have hb : i < b.length := by omega
    rw [List.drop_eq_getElem_cons ha, List.drop_eq_getElem_cons hb]
    by_cases e : a[i] = b[i]
    · refine Ev.step (f := fun k => galoisref22_Same.l0 k a b ((i + 1 : Nat) : Int)) (fun k => ?_) ?_
      · simp only [galoisref22_Same.l0]
        rw [if_pos (by omega), if_pos (by omega), if_pos (by omega), rd_get a i ha, rd_get b i hb, if_pos e, wrap_nat (by omega)]
      · rw [show decide (a[i] :: a.drop (i + 1) = b[i] :: b.drop (i + 1)) = decide (a.drop (i + 1) = b.drop (i + 1)) by rw [e]; simp only [List.cons.injEq, true_and]]
        exact ih (i + 1) (by omega) (by omega)
    · refine Ev.step (f := fun _ => some false) (fun k => ?_) ?_
      · simp only [galoisref22_Same.l0]
        rw [if_pos (by omega), if_pos (by omega), if_pos (by omega), rd_get a i ha, rd_get b i hb, if_neg e]
      · rw [show decide (a[i] :: a.drop (i + 1) = b[i] :: b.drop (i + 1)) = false by simp only [List.cons.injEq, e, false_and, decide_false]]
        exact Ev.now _
theorem galoisref22_Same.ev (a b : List Int) (hn : a.length < 4611686018427387904) : Ev (fun k => galoisref22_Same.f k a b) (decide (a = b)) := by
  unfold galoisref22_Same.f
  by_cases hl : a.length = b.length
  · refine Ev.congr (f := fun k => galoisref22_Same.l0 k a b ((0 : Nat) : Int)) (fun k => ?_) ?_
    · rw [if_pos (by omega)]; rfl
    · have := galoisref22_Same.l_ev a b hl hn _ 0 rfl (by omega)
      rwa [List.drop_zero, List.drop_zero] at this
  · refine Ev.congr (f := fun _ => some false) (fun k => ?_) ?_
    · rw [if_neg (by omega)]
    · rw [show decide (a = b) = false by
        rw [decide_eq_false_iff_not]; exact fun e => hl (by rw [e])]
      exact Ev.now _
theorem galoisref22_Compare.l_ev (a b : List Int) (hl : a.length = b.length) (hn : a.length < 4611686018427387904) : ∀ (d i : Nat), a.length - i = d → i ≤ a.length →
    Ev (fun k => galoisref22_Compare.l0 k a b (i : Int)) (cmpL (a.drop i) (b.drop i)) := by
  intro d
  induction d with
  | zero =>
    intro i hd hi
    rw [List.drop_eq_nil_of_le (by omega : a.length ≤ i)]
    refine Ev.step (f := fun _ => some 0) (fun k => ?_) (Ev.now _)
    simp only [galoisref22_Compare.l0]
    rw [if_neg (by omega)]
  | succ d ih =>
    intro i hd hi
    have ha : i < a.length := by omega
    have hb : i < b.length := by omega
    have nx := ih (i + 1) (by omega) (by omega)
    rw [List.drop_eq_getElem_cons ha, List.drop_eq_getElem_cons hb]
    simp only [cmpL]
    have st : ∀ k, galoisref22_Compare.l0 (k + 1) a b (i : Int) = if a[i] < b[i] then some (-1) else if b[i] < a[i] then some 1 else galoisref22_Compare.l0 k a b ((i + 1 : Nat) : Int) := by
      intro k
      simp only [galoisref22_Compare.l0]
      rw [if_pos (by omega), if_pos (by omega), if_pos (by omega), rd_get a i ha, rd_get b i hb, wrap_nat (by omega)]
    by_cases h1 : a[i] < b[i]
    · rw [if_pos h1]
      exact Ev.step (f := fun _ => some (-1)) (fun k => by rw [st, if_pos h1]) (Ev.now _)
    · by_cases h2 : b[i] < a[i]
      · rw [if_neg h1, if_pos h2]
        exact Ev.step (f := fun _ => some 1) (fun k => by rw [st, if_neg h1, if_pos h2]) (Ev.now _)
      · rw [if_neg h1, if_neg h2]
        exact Ev.step (fun k => by rw [st, if_neg h1, if_neg h2]) nx
theorem galoisref22_Compare.ev (a b : List Int) (hl : a.length = b.length) (hn : a.length < 4611686018427387904) : Ev (fun k => galoisref22_Compare.f k a b) (cmpL a b) := by
  have := galoisref22_Compare.l_ev a b hl hn _ 0 rfl (Nat.zero_le _)
  rwa [List.drop_zero, List.drop_zero] at this
theorem galoisref22_Mul.l_ev (a b : List Int) (hl : a.length < 35184372088832) (hr : ∀ x ∈ a, 0 ≤ x ∧ x < (b.length : Int)) : ∀ (d i : Nat), a.length - i = d → i ≤ a.length →
    Ev (fun k => galoisref22_Mul.l0 k a b ((mulL a b).take i ++ (List.replicate a.length 0).drop i) (i : Int)) (mulL a b) := by
  have hm : (mulL a b).length = a.length := by simp [mulL]
  intro d
  induction d with
  | zero =>
    intro i hd hi
    have e : i = (mulL a b).length := by omega
    refine Ev.step (f := fun _ => some (mulL a b)) (fun k => ?_) (Ev.now _)
    simp only [galoisref22_Mul.l0]
    rw [if_neg (by omega), e, fill_end _ _ (by simp [hm])]
  | succ d ih =>
    intro i hd hi
    have hlt : i < a.length := by omega
    have hx := hr a[i] (List.getElem_mem hlt)
    refine Ev.step (f := fun k => galoisref22_Mul.l0 k a b ((mulL a b).take (i + 1) ++ (List.replicate a.length 0).drop (i + 1)) ((i + 1 : Nat) : Int)) (fun k => ?_) (ih (i + 1) (by omega) (by omega))
    simp only [galoisref22_Mul.l0]
    rw [if_pos (by omega), if_pos (by omega), rd_get a i hlt, if_pos hx.1, if_pos hx.2, if_pos (by rw [List.length_append, List.length_take, List.length_drop, List.length_replicate]; omega), wrap_nat (by omega)]
    rw [Int.toNat_natCast, set_fill (mulL a b) (List.replicate a.length 0) i (rd b a[i]) (by omega) (by simp [hm]) (by simp [mulL, List.getElem?_eq_getElem hlt])]
theorem galoisref22_Mul.ev (a b : List Int) (hl : a.length < 35184372088832) (hr : ∀ x ∈ a, 0 ≤ x ∧ x < (b.length : Int)) : Ev (fun k => galoisref22_Mul.f k a b) (mulL a b) := by
  refine Ev.congr (fun k => ?_) (galoisref22_Mul.l_ev a b hl hr _ 0 rfl (Nat.zero_le _))
  unfold galoisref22_Mul.f
  rw [if_pos (by omega), if_pos (by omega)]
  simp
theorem galoisref22_Mul.ev_lf (g h : Nat → Nat) (n : Nat) (hg : Bij n g) (hn : n ≤ 20) : Ev (fun k => galoisref22_Mul.f k (lf g n) (lf h n)) (lf (fun i => h (g i)) n) := by
  have := galoisref22_Mul.ev (lf g n) (lf h n) (by rw [lf_length]; omega) (fun x hx => by
    have := (lf_perm hg).1 x hx
    rw [lf_length] at this ⊢; exact this)
  rwa [mulL_lf g h n hg.lt] at this
theorem galoisref22_Check.l1_ev (l : List Int) (i : Nat) (hi : i < l.length) (hl : l.length ≤ 20) (r : Int)
    (hr : l.getD i 0 ∉ l.take i → Ev (fun k => galoisref22_Check.l0 k l ((i + 1 : Nat) : Int)) r) : ∀ (d j : Nat), i - j = d → j ≤ i → l.getD i 0 ∉ l.take j →
    Ev (fun k => galoisref22_Check.l1 k l (i : Int) (j : Int)) (if l.getD i 0 ∈ l.take i then 24 else r) := by
  intro d
  induction d with
  | zero =>
    intro j hd hj hno
    have e : j = i := by omega
    subst e
    rw [if_neg hno]
    refine Ev.step (f := fun k => galoisref22_Check.l0 k l ((j + 1 : Nat) : Int)) (fun k => ?_) (hr hno)
    simp only [galoisref22_Check.l1]
    rw [if_neg (by omega), wrap_nat (by omega)]
  | succ d ih =>
    intro j hd hj hno
    have hjl : j < l.length := by omega
    by_cases e : l.getD j 0 = l.getD i 0
    · rw [if_pos (by
        rw [← e, List.getD_eq_getElem?_getD, List.getElem?_eq_getElem hjl]
        exact List.mem_take_iff_getElem.2 ⟨j, by omega, rfl⟩)]
      refine Ev.step (f := fun _ => some 24) (fun k => ?_) (Ev.now _)
      simp only [galoisref22_Check.l1]
      rw [if_pos (by omega), if_pos (by omega), if_pos (by omega), if_pos (by omega), if_pos (by omega), if_pos (by simpa only [rd_nat] using e)]
    · refine Ev.step (f := fun k => galoisref22_Check.l1 k l (i : Int) ((j + 1 : Nat) : Int)) (fun k => ?_) (ih (j + 1) (by omega) (by omega) ?_)
      · simp only [galoisref22_Check.l1]
        rw [if_pos (by omega), if_pos (by omega), if_pos (by omega), if_pos (by omega), if_pos (by omega), if_neg (by simpa only [rd_nat] using e), wrap_nat (by omega)]
      · rw [List.take_succ_eq_append_getElem hjl, List.mem_append, List.mem_singleton]
        rintro (h | h)
        · exact hno h
        · apply e
          rw [h, List.getD_eq_getElem?_getD, List.getElem?_eq_getElem hjl]; rfl
theorem galoisref22_Check.l_ev (l : List Int) (hl : l.length ≤ 20) : ∀ (d i : Nat), l.length - i = d → i ≤ l.length →
    Ev (fun k => galoisref22_Check.l0 k l (i : Int)) (chkFrom l d) := by
  intro d
  induction d with
  | zero =>
    intro i hd hi
    refine Ev.step (f := fun _ => some 0) (fun k => ?_) (Ev.now _)
    simp only [galoisref22_Check.l0]
    rw [if_neg (by omega)]
  | succ d ih =>
    intro i hd hi
    have hi' : l.length - (d + 1) = i := by omega
    simp only [chkFrom, hi']
    have hb : ∀ b : Bool, (b = true ↔ (l.getD i 0 < 0 ∨ (l.length : Int) ≤ l.getD i 0)) →
        Ev (fun k => galoisref22_Check.j1 k l (i : Int) b) (if l.getD i 0 < 0 ∨ (l.length : Int) ≤ l.getD i 0 then 3 else if l.getD i 0 ∈ l.take i then 24 else chkFrom l d) := by
      intro b hb
      by_cases h : b = true
      · rw [if_pos (hb.1 h)]
        refine Ev.step (f := fun _ => some 3) (fun k => ?_) (Ev.now _)
        simp only [galoisref22_Check.j1]
        rw [if_pos h]
      · rw [if_neg (fun hh => h (hb.2 hh))]
        refine Ev.step (f := fun k => galoisref22_Check.l1 k l (i : Int) ((0 : Nat) : Int)) (fun k => ?_) (galoisref22_Check.l1_ev l i (by omega) hl _ (fun _ => ih (i + 1) (by omega) (by omega)) _ 0 rfl (by omega) (by simp))
        simp only [galoisref22_Check.j1]
        rw [if_neg h]
        rfl
    by_cases h0 : rd l (i : Int) < 0
    · refine Ev.step (f := fun k => galoisref22_Check.j1 k l (i : Int) true) (fun k => ?_) (hb true ⟨fun _ => .inl h0, fun _ => rfl⟩)
      simp only [galoisref22_Check.l0]
      rw [if_pos (by omega), if_pos (by omega), if_pos h0]
    · refine Ev.step (f := fun k => galoisref22_Check.j1 k l (i : Int) (decide (rd l (i : Int) ≥ (l.length : Int)))) (fun k => ?_) (hb _ ?_)
      · simp only [galoisref22_Check.l0]
        rw [if_pos (by omega), if_pos (by omega), if_neg h0]
      · rw [decide_eq_true_iff]
        exact ⟨fun h => .inr h, fun h => h.elim (fun hh => absurd hh h0) id⟩
theorem galoisref22_Check.ev (l : List Int) : Ev (fun k => galoisref22_Check.f k l) (chk l) := by
  unfold galoisref22_Check.f chk
  by_cases h : 20 < l.length
  · rw [if_pos h]
    refine Ev.congr (f := fun _ => some 4) (fun k => ?_) (Ev.now _)
    rw [if_pos (by omega)]
  · rw [if_neg h]
    refine Ev.congr (f := fun k => galoisref22_Check.l0 k l 0) (fun k => ?_) (galoisref22_Check.l_ev l (by omega) _ 0 (by omega) (by omega))
    rw [if_neg (by omega)]
theorem rdL_get (C : List (List Int)) (i : Nat) (h : i < C.length) : rd_L1 C (i : Int) = C[i] := by
  show C.getD i [] = _
  rw [List.getD_eq_getElem?_getD, List.getElem?_eq_getElem h]; rfl
theorem galoisref23_Check.l_ev (L : List (List Int)) (n : Int) (hL : L.length ≤ 32) : ∀ (d i : Nat), L.length - i = d → i ≤ L.length → Ev (fun k => galoisref23_Check.l0 k (i : Int) n L) (chkAll n (L.drop i))
  | 0, i, hd, hi => by
    rw [List.drop_eq_nil_of_le (by omega)]
    refine Ev.step (f := fun _ => some 0) (fun k => ?_) (Ev.now _)
    simp only [galoisref23_Check.l0]
    rw [if_neg (by omega)]
  | d + 1, i, hd, hi => by
    have hlt : i < L.length := by omega
    rw [List.drop_eq_getElem_cons hlt, chkAll]
    refine Ev.step (f := fun k => (galoisref22_Check.f k L[i]).bind fun t => if t = 0 then (if (L[i].length : Int) = n then galoisref23_Check.l0 k ((i + 1 : Nat) : Int) n L else some 2) else some t) (fun k => ?_) ?_
    · simp only [galoisref23_Check.l0]
      rw [if_pos (by omega), if_pos (by omega), rdL_get L i hlt, wrap_nat (by omega)]
    · refine Ev.bind (galoisref22_Check.ev _) ?_
      unfold chkE
      by_cases h : chk L[i] = 0
      · simp only [h, if_pos rfl]
        by_cases e : (L[i].length : Int) = n
        · simp only [if_pos e, if_pos rfl]; exact galoisref23_Check.l_ev L n hL d (i + 1) (by omega) (by omega)
        · simp only [if_neg e]; exact Ev.now _
      · simp only [if_neg h]; exact Ev.now _
theorem galoisref23_Check.ev (n : Int) (L : List (List Int)) : Ev (fun k => galoisref23_Check.f k n L) (chkG n L) := by
  unfold chkG
  by_cases h1 : n < 0
  · rw [if_pos h1]; refine Ev.congr (f := fun _ => some 3) (fun k => ?_) (Ev.now _); simp only [galoisref23_Check.f, galoisref22_Degree.f]; rw [if_pos h1]; rfl
  · rw [if_neg h1]
    by_cases h2 : 20 < n
    · rw [if_pos h2]; refine Ev.congr (f := fun _ => some 4) (fun k => ?_) (Ev.now _); simp only [galoisref23_Check.f, galoisref22_Degree.f]; rw [if_neg h1, if_pos h2]; rfl
    · rw [if_neg h2]
      by_cases h3 : 32 < L.length
      · rw [if_pos h3]; refine Ev.congr (f := fun _ => some 5) (fun k => ?_) (Ev.now _); simp only [galoisref23_Check.f, galoisref22_Degree.f]; rw [if_neg h1, if_neg h2]; show (if (0 : Int) = 0 then (if (L.length : Int) > 32 then some 5 else galoisref23_Check.l0 k 0 n L) else some 0) = _; rw [if_pos rfl, if_pos (by omega)]
      · rw [if_neg h3]; refine Ev.congr (f := fun k => galoisref23_Check.l0 k ((0 : Nat) : Int) n L) (fun k => ?_) (galoisref23_Check.l_ev L n (by omega) _ 0 rfl (by omega)); simp only [galoisref23_Check.f, galoisref22_Degree.f]; rw [if_neg h1, if_neg h2]; show (if (0 : Int) = 0 then (if (L.length : Int) > 32 then some 5 else galoisref23_Check.l0 k 0 n L) else some 0) = _; rw [if_pos rfl, if_neg (by omega)]; rfl
theorem galoisref23_Few.l_ev (L : List (List Int)) (n : Int) (hL : L.length ≤ 40) : ∀ (d i : Nat), L.length - i = d → i ≤ L.length → ∃ b, Ev (fun k => galoisref23_Few.l0 k (i : Int) n L) b
  | 0, i, hd, hi => by
    refine ⟨true, Ev.step (f := fun _ => some true) (fun k => ?_) (Ev.now _)⟩
    simp only [galoisref23_Few.l0]
    rw [if_neg (by omega)]
  | d + 1, i, hd, hi => by
    have hlt : i < L.length := by omega
    obtain ⟨b, hb⟩ := galoisref23_Few.l_ev L n hL d (i + 1) (by omega) (by omega)
    by_cases e : (L[i].length : Int) > 40
    · refine ⟨false, Ev.step (f := fun _ => some false) (fun k => ?_) (Ev.now _)⟩
      simp only [galoisref23_Few.l0]
      rw [if_pos (by omega), if_pos (by omega), rdL_get L i hlt, if_pos e]
    · refine ⟨b, Ev.step (f := fun k => galoisref23_Few.l0 k ((i + 1 : Nat) : Int) n L) (fun k => ?_) hb⟩
      simp only [galoisref23_Few.l0]
      rw [if_pos (by omega), if_pos (by omega), rdL_get L i hlt, if_neg e, wrap_nat (by omega)]
theorem galoisref23_Few.ev (n : Int) (L : List (List Int)) : ∃ b, Ev (fun k => galoisref23_Few.f k n L) b := by
  by_cases h : (L.length : Int) > 40
  · exact ⟨false, Ev.congr (f := fun _ => some false) (fun k => by simp only [galoisref23_Few.f]; rw [if_pos h]) (Ev.now _)⟩
  · obtain ⟨b, hb⟩ := galoisref23_Few.l_ev L n (by omega) _ 0 rfl (by omega)
    exact ⟨b, Ev.congr (f := fun k => galoisref23_Few.l0 k ((0 : Nat) : Int) n L) (fun k => by simp only [galoisref23_Few.f]; rw [if_neg h]; rfl) hb⟩
theorem galoisref22_Identity.l_ev (n : Nat) (hl : n ≤ 35184372088832) : ∀ (d i : Nat), n - i = d → i ≤ n →
    Ev (fun k => galoisref22_Identity.l0 k (n : Int) ((lf (fun i => i) n).take i ++ (List.replicate n 0).drop i) (i : Int)) (lf (fun i => i) n) := by
  have hm : (lf (fun i => i) n).length = n := lf_length _ _
  intro d
  induction d with
  | zero =>
    intro i hd hi
    have e : i = (lf (fun i => i) n).length := by omega
    refine Ev.step (f := fun _ => some (lf (fun i => i) n)) (fun k => ?_) (Ev.now _)
    simp only [galoisref22_Identity.l0]
    rw [if_neg (by omega), e, fill_end _ _ (by simp [hm])]
  | succ d ih =>
    intro i hd hi
    refine Ev.step (f := fun k => galoisref22_Identity.l0 k (n : Int) ((lf (fun i => i) n).take (i + 1) ++ (List.replicate n 0).drop (i + 1)) ((i + 1 : Nat) : Int)) (fun k => ?_) (ih (i + 1) (by omega) (by omega))
    simp only [galoisref22_Identity.l0]
    rw [if_pos (by omega), if_pos (by omega), if_pos (by rw [List.length_append, List.length_take, List.length_drop, List.length_replicate]; omega), wrap_nat (by omega)]
    rw [Int.toNat_natCast, set_fill (lf (fun i => i) n) (List.replicate n 0) i (i : Int) (by omega) (by simp [hm]) (lf_get? _ _ _ (by omega))]
theorem galoisref22_Identity.ev (n : Nat) (hl : n ≤ 35184372088832) : Ev (fun k => galoisref22_Identity.f k (n : Int)) (lf (fun i => i) n) := by
  refine Ev.congr (fun k => ?_) (galoisref22_Identity.l_ev n hl _ 0 rfl (Nat.zero_le _))
  unfold galoisref22_Identity.f
  rw [if_pos (by omega), if_pos (by omega)]
  simp
end Go.Proofs.Ytmbldnoepjmhhaa.QRf
end
section
/- What the reference's lists of permutations come to: the place in a rising list, membership, all products. -/
namespace Go.Proofs.Ytmbldnoepjmhhaa.QCl
open Go.RowKit Go.Proofs.YtmbldnoepjmhhaaW.PrintWords Go.Proofs.Ytmbldnoepjmhhaa.Plain Go.Proofs.Ytmbldnoepjmhhaa.Pms Go.Proofs.Ytmbldnoepjmhhaa.PRf Go.Proofs.Ytmbldnoepjmhhaa.QRf Go.Proofs.Ytmbldnoepjmhhaa.Bs
variable {n : Nat}
theorem mulP (hn : n ≤ 20) (p q : Pm n) : Ev (fun k => galoisref22_Mul.f k p.l q.l) (p * q).l := by
  have h := galoisref22_Mul.ev_lf p.ap q.ap n p.bij hn
  rw [← p.l_eq, ← q.l_eq] at h
  have e : lf (fun i => q.ap (p.ap i)) n = (p * q).l := by
    rw [(p * q).l_eq]
    exact lf_congr fun i hi => (Pm.mul_ap p q hi).symm
  rwa [e] at h
theorem identP (hn : n ≤ 20) : Ev (fun k => galoisref22_Identity.f k (n : Int)) (1 : Pm n).l := galoisref22_Identity.ev n (by omega)
theorem sameP (p q : Pm n) (hn : n ≤ 20) : Ev (fun k => galoisref22_Same.f k p.l q.l) (decide (p = q)) := by
  have h := galoisref22_Same.ev p.l q.l (by rw [p.len]; omega)
  have e : decide (p.l = q.l) = decide (p = q) := decide_eq_decide.2 ⟨fun h => Pm.eq_of_l h, fun h => by rw [h]⟩
  rwa [e] at h
theorem mapl_get (L : List (Pm n)) (i : Nat) (h : i < L.length) : rd_L1 (L.map Pm.l) (i : Int) = L[i].l := by
  have h2 : i < (L.map Pm.l).length := by rw [List.length_map]; exact h
  rw [rdL_get _ i h2, List.getElem_map]
theorem place_loop (hn : n ≤ 20) {L : List (Pm n)} (hL : L.Pairwise Lt) (hlen : L.length < 1000000) (p : Pm n) (P : Nat) (hP : ∀ (i : Nat) (hi : i < L.length), Lt L[i] p ↔ i < P) : ∀ (d low high : Nat), high - low ≤ d → low ≤ P → P ≤ high → high ≤ L.length → Ev (fun k => galoisref23_Place.l0 k (L.map Pm.l) p.l (low : Int) (high : Int)) ((P : Nat) : Int) := by
  intro d
  induction d with
  | zero =>
    intro low high hd h1 h2 h3
    refine Ev.step (f := fun _ => some (low : Int)) (fun k => ?_) (by rw [show P = low by omega]; exact Ev.now _)
    simp only [galoisref23_Place.l0]
    rw [if_neg (by omega)]
  | succ d ih =>
    intro low high hd h1 h2 h3
    by_cases hlt : low < high
    · have hs : low + high < 2000000 := by omega
      have e1 : wrap64 ((low : Int) + (high : Int)) = ((low + high : Nat) : Int) := by rw [w64_small (by omega) (by omega)]; omega
      obtain ⟨m, hm1, hm2, e2⟩ : ∃ m, low ≤ m ∧ m < high ∧ wrap64 (Int.tdiv ((low + high : Nat) : Int) 2) = (m : Int) := by
        refine ⟨(low + high) / 2, by omega, by omega, ?_⟩
        have h9 : Int.tdiv ((low + high : Nat) : Int) ((2 : Nat) : Int) = (((low + high) / 2 : Nat) : Int) := (Int.ofNat_tdiv (low + high) 2).symm
        have h8 : (low + high) / 2 < 2000000 := by omega
        obtain ⟨t, ht⟩ : ∃ t, (low + high) / 2 = t := ⟨_, rfl⟩
        rw [ht] at h8 h9 ⊢
        have h7 : Int.tdiv ((low + high : Nat) : Int) 2 = (t : Int) := h9
        rw [h7]
        clear h7 h9 ht e1 hs
        exact w64_small (by omega) (by omega)
      have hml : m < L.length := Nat.lt_of_lt_of_le hm2 h3
      have c1 : (low : Int) < (high : Int) := by omega
      have c2 : (0 : Int) ≤ (m : Int) := Int.natCast_nonneg m
      have c3 : (m : Int) < ((L.map Pm.l).length : Int) := by rw [List.length_map]; omega
      have c4 : wrap64 ((m : Int) + 1) = ((m + 1 : Nat) : Int) := wrap_nat (Nat.lt_trans (Nat.lt_trans hml hlen) (by decide))
      clear hs
      refine Ev.step (f := fun k => (galoisref22_Compare.f k L[m].l p.l).bind fun t => if t < 0 then galoisref23_Place.l0 k (L.map Pm.l) p.l ((m + 1 : Nat) : Int) (high : Int) else galoisref23_Place.l0 k (L.map Pm.l) p.l (low : Int) (m : Int)) (fun k => ?_) ?_
      · simp only [galoisref23_Place.l0, e1, e2, eq_true c1, eq_true c2, eq_true c3, if_true, mapl_get L m hml, c4]
      · refine Ev.bind (galoisref22_Compare.ev _ _ (by rw [L[m].len, p.len]) (by rw [L[m].len]; omega)) ?_
        have hp := hP m hml
        clear hP hlen e1 e2 c1 c2 c3 c4
        by_cases hc : cmpL L[m].l p.l < 0
        · simp only [if_pos hc]
          have := hp.1 ((cmp_lt _ _).1 hc)
          clear hp hc
          exact ih (m + 1) high (by omega) (by omega) h2 h3
        · simp only [if_neg hc]
          have : ¬ m < P := fun h => hc ((cmp_lt _ _).2 (hp.2 h))
          clear hp hc
          exact ih low m (by omega) h1 (by omega) (by omega)
    · exact ih low high (by omega) h1 h2 h3
theorem placeP (hn : n ≤ 20) {L : List (Pm n)} (hL : L.Pairwise Lt) (hlen : L.length < 1000000) (p : Pm n) : Ev (fun k => galoisref23_Place.f k (L.map Pm.l) p.l) ((place L p : Nat) : Int) := by
  have := place_loop hn hL hlen p (place L p) (fun i hi => place_iff hL i hi) L.length 0 L.length (by omega) (Nat.zero_le _) (place_le L p) (Nat.le_refl _)
  unfold galoisref23_Place.f
  rw [List.length_map]
  exact this
theorem hasP (hn : n ≤ 20) {L : List (Pm n)} (hL : L.Pairwise Lt) (hlen : L.length < 1000000) (p : Pm n) : Ev (fun k => galoisref23_Has.f k (L.map Pm.l) p.l) (decide (p ∈ L)) := by
  unfold galoisref23_Has.f
  refine Ev.bind (placeP hn hL hlen p) ?_
  rw [List.length_map]
  by_cases h : place L p < L.length
  · simp only [if_pos (show ((place L p : Nat) : Int) < (L.length : Int) by omega), if_pos (show (0 : Int) ≤ ((place L p : Nat) : Int) by omega), mapl_get L _ h]
    refine Ev.bind (sameP _ _ hn) ?_
    have e : decide (L[place L p] = p) = decide (p ∈ L) := decide_eq_decide.2 ⟨fun e => (place_mem hL).2 ⟨h, e⟩, fun e => (place_mem hL).1 e |>.2⟩
    rw [e]; exact Ev.now _
  · simp only [if_neg (show ¬ ((place L p : Nat) : Int) < (L.length : Int) by omega)]
    have e : decide (p ∈ L) = false := decide_eq_false fun e => h ((place_mem hL).1 e).1
    rw [e]; exact Ev.now _
structure ClInv (S A W : List (Pm n)) (i j : Nat) : Prop where
  srt : A.Pairwise Lt
  perm : A.Perm W
  one : (1 : Pm n) ∈ W
  gen : ∀ x ∈ W, Gen S x
  rows : ∀ (a : Nat) (ha : a < W.length), a < i → ∀ s ∈ S, W[a] * s ∈ W
  row : ∀ (b : Nat) (hb : b < S.length) (hi : i < W.length), b < j → W[i] * S[b] ∈ W
  small : W.length ≤ 240
  jl : j ≤ S.length
  il : i ≤ W.length
def closeR (E : List (Pm n)) : List (List Int) × Bool := if E.length ≤ 240 then (E.map Pm.l, true) else ([], false)
theorem close_loop (hn : n ≤ 20) (S E : List (Pm n)) (hE : E.Pairwise Lt) (hG : ∀ p, p ∈ E ↔ Gen S p) : ∀ (m i j : Nat) (A W : List (Pm n)), ClInv S A W i j → (240 - i) * (S.length + 1) + (S.length - j) ≤ m → ∃ K, ∀ k, K ≤ k → ∀ q, m < q → closeL k (S.map Pm.l) q (A.map Pm.l) (W.map Pm.l) i j = some (closeR E) := by
  intro m
  induction m with
  | zero =>
    intro i j A W hI hm
    have hi : 240 - i = 0 := by
      rcases Nat.eq_zero_or_pos (240 - i) with h | h
      · exact h
      · have := Nat.mul_pos h (Nat.succ_pos S.length); simp only [Nat.succ_eq_add_one] at this; omega
    have hW := hI.small
    have hil := hI.il
    have h240 : i = 240 := by omega
    have hEA : E = A := by
      refine sorted_eq hE hI.srt fun p => ?_
      rw [hG]
      constructor
      · intro hp
        refine hI.perm.symm.subset (Gen.induct (P := fun p => p ∈ W) hI.one (fun x s hx _ hs => ?_) hp)
        obtain ⟨a, ha, rfl⟩ := List.getElem_of_mem hx
        exact hI.rows a ha (by omega) s hs
      · intro hp; exact hI.gen p (hI.perm.subset hp)
    refine ⟨0, fun k _ q hq => ?_⟩
    obtain ⟨q, rfl⟩ : ∃ t, q = t + 1 := ⟨q - 1, by omega⟩
    rw [closeL, List.length_map, if_neg (by omega), closeR, hEA, if_pos (by rw [hI.perm.length_eq]; omega)]
  | succ m ih =>
    intro i j A W hI hm
    have hlA : A.length = W.length := hI.perm.length_eq
    have hW := hI.small
    by_cases hi : i < W.length
    · by_cases hj : j < S.length
      · obtain ⟨p, hp⟩ : ∃ p, W[i] * S[j] = p := ⟨_, rfl⟩
        obtain ⟨K1, h1⟩ := mulP hn W[i] S[j]
        obtain ⟨K2, h2⟩ := hasP hn hI.srt (by omega) p
        obtain ⟨K3, h3⟩ := placeP hn hI.srt (by omega) p
        replace h1 : ∀ k, K1 ≤ k → galoisref22_Mul.f k W[i].l S[j].l = some (W[i] * S[j]).l := h1
        replace h2 : ∀ k, K2 ≤ k → galoisref23_Has.f k (A.map Pm.l) p.l = some (decide (p ∈ A)) := h2
        replace h3 : ∀ k, K3 ≤ k → galoisref23_Place.f k (A.map Pm.l) p.l = some ((place A p : Nat) : Int) := h3
        rw [hp] at h1
        have hstep : ∀ k q, K1 ≤ k → K2 ≤ k → closeL k (S.map Pm.l) (q + 1) (A.map Pm.l) (W.map Pm.l) i j = if decide (p ∈ A) = true then closeL k (S.map Pm.l) q (A.map Pm.l) (W.map Pm.l) i (j + 1) else if 240 ≤ A.length then some ([], false) else (galoisref23_Place.f k (A.map Pm.l) p.l).bind fun a => if 0 ≤ a ∧ a ≤ (A.length : Int) then closeL k (S.map Pm.l) q ((A.map Pm.l).take a.toNat ++ p.l :: (A.map Pm.l).drop a.toNat) (W.map Pm.l ++ [p.l]) i (j + 1) else none := fun k q hk1 hk2 => by
          have hw : (W.map Pm.l).getD i [] = W[i].l := by rw [List.getD_eq_getElem?_getD, List.getElem?_map, List.getElem?_eq_getElem hi]; rfl
          have hs : (S.map Pm.l).getD j [] = S[j].l := by rw [List.getD_eq_getElem?_getD, List.getElem?_map, List.getElem?_eq_getElem hj]; rfl
          rw [closeL, List.length_map, List.length_map, if_pos hi, if_pos hj, hw, hs, h1 k hk1, Option.bind_some, h2 k hk2, Option.bind_some, List.length_map]
        by_cases hpA : p ∈ A
        · have hI' : ClInv S A W i (j + 1) := { hI with
            row := fun b hb hi2 hbj => by
              by_cases e : b = j
              · subst e; rw [hp]; exact hI.perm.subset hpA
              · exact hI.row b hb hi2 (by omega)
            jl := by omega }
          obtain ⟨K, hK⟩ := ih i (j + 1) A W hI' (by omega)
          refine ⟨max K (max K1 K2), fun k hk q hq => ?_⟩
          obtain ⟨q, rfl⟩ : ∃ t, q = t + 1 := ⟨q - 1, by omega⟩
          rw [hstep k q (by omega) (by omega), if_pos (decide_eq_true hpA)]
          exact hK k (by omega) q (by omega)
        · have hpG : Gen S p := by rw [← hp]; exact (hI.gen _ (List.getElem_mem hi)).mul (Gen.of (List.getElem_mem hj))
          by_cases hbig : 240 ≤ A.length
          · have hlen : ¬ E.length ≤ 240 := fun hle => by
              have h4 : (p :: A).Nodup := List.nodup_cons.2 ⟨hpA, sorted_nodup hI.srt⟩
              have := h4.length_le_of_subset (l₂ := E) (fun x hx => by
                rw [hG]
                rcases List.mem_cons.1 hx with rfl | hx
                · exact hpG
                · exact hI.gen x (hI.perm.subset hx))
              rw [List.length_cons] at this
              omega
            refine ⟨max K1 K2, fun k hk q hq => ?_⟩
            obtain ⟨q, rfl⟩ : ∃ t, q = t + 1 := ⟨q - 1, by omega⟩
            rw [hstep k q (by omega) (by omega), if_neg (by rw [decide_eq_true_iff]; exact hpA), if_pos hbig, closeR, if_neg hlen]
          · have hI' : ClInv S (ins A p) (W ++ [p]) i (j + 1) := {
              srt := ins_sorted hI.srt hpA
              perm := (ins_perm A p).trans (((hI.perm.cons p)).trans (List.perm_append_singleton p W).symm)
              one := List.mem_append_left _ hI.one
              gen := fun x hx => by
                rcases List.mem_append.1 hx with hx | hx
                · exact hI.gen x hx
                · rw [List.mem_singleton] at hx; subst hx; exact hpG
              rows := fun a ha hai s hs => by
                rw [List.getElem_append_left (by omega)]
                exact List.mem_append_left _ (hI.rows a (by omega) hai s hs)
              row := fun b hb hi2 hbj => by
                rw [List.getElem_append_left hi]
                by_cases e : b = j
                · subst e; rw [hp]; exact List.mem_append_right _ (List.mem_singleton.2 rfl)
                · exact List.mem_append_left _ (hI.row b hb hi (by omega))
              small := by rw [List.length_append, List.length_singleton]; omega
              jl := by omega
              il := by rw [List.length_append]; omega }
            obtain ⟨K, hK⟩ := ih i (j + 1) (ins A p) (W ++ [p]) hI' (by omega)
            refine ⟨max K (max K1 (max K2 K3)), fun k hk q hq => ?_⟩
            obtain ⟨q, rfl⟩ : ∃ t, q = t + 1 := ⟨q - 1, by omega⟩
            have hpl := place_le A p
            rw [hstep k q (by omega) (by omega), if_neg (by rw [decide_eq_true_iff]; exact hpA), if_neg hbig, h3 k (by omega), Option.bind_some, if_pos (by omega), Int.toNat_natCast]
            have := hK k (by omega) q (by omega)
            unfold ins at this
            rw [List.map_append, List.map_cons, List.map_take, List.map_drop, List.map_append] at this
            exact this
      · have ej : j = S.length := by have := hI.jl; omega
        have hI' : ClInv S A W (i + 1) 0 := { hI with
          rows := fun a ha hai s hs => by
            by_cases e : a = i
            · subst e
              obtain ⟨b, hb, rfl⟩ := List.getElem_of_mem hs
              exact hI.row b hb hi (by omega)
            · exact hI.rows a ha (by omega) s hs
          row := fun b hb hi2 hbj => by omega
          jl := Nat.zero_le _
          il := by omega }
        have hmul : (240 - i) * (S.length + 1) = (240 - (i + 1)) * (S.length + 1) + (S.length + 1) := by
          rw [show 240 - i = (240 - (i + 1)) + 1 by omega, Nat.succ_mul]
        obtain ⟨K, hK⟩ := ih (i + 1) 0 A W hI' (by omega)
        refine ⟨K, fun k hk q hq => ?_⟩
        obtain ⟨q, rfl⟩ : ∃ t, q = t + 1 := ⟨q - 1, by omega⟩
        rw [closeL, List.length_map, List.length_map, if_pos hi, if_neg hj]
        exact hK k hk q (by omega)
    · have hEA : E = A := by
        refine sorted_eq hE hI.srt fun p => ?_
        rw [hG]
        constructor
        · intro hp
          refine hI.perm.symm.subset (Gen.induct (P := fun p => p ∈ W) hI.one (fun x s hx _ hs => ?_) hp)
          obtain ⟨a, ha, rfl⟩ := List.getElem_of_mem hx
          exact hI.rows a ha (by omega) s hs
        · intro hp; exact hI.gen p (hI.perm.subset hp)
      refine ⟨0, fun k _ q hq => ?_⟩
      obtain ⟨q, rfl⟩ : ∃ t, q = t + 1 := ⟨q - 1, by omega⟩
      rw [closeL, List.length_map, if_neg hi, closeR, hEA, if_pos (by omega)]
theorem closeP (hn : n ≤ 20) {S E : List (Pm n)} (hE : E.Pairwise Lt) (hG : ∀ p, p ∈ E ↔ Gen S p) : Ev (fun k => galoisref23_Close.f k (n : Int) (S.map Pm.l)) (closeR E) := by
  obtain ⟨K1, h1⟩ := identP (n := n) hn
  replace h1 : ∀ k, K1 ≤ k → galoisref22_Identity.f k (n : Int) = some (1 : Pm n).l := h1
  obtain ⟨K, hK⟩ := close_loop hn S E hE hG _ 0 0 [1] [1] {
    srt := List.pairwise_singleton _ _
    perm := List.Perm.refl _
    one := List.mem_singleton.2 rfl
    gen := fun x hx => by rw [List.mem_singleton] at hx; subst hx; exact Gen.one _
    rows := fun a ha hai => by omega
    row := fun b hb hi hbj => by omega
    small := by simp
    jl := Nat.zero_le _
    il := Nat.zero_le _ } (Nat.le_refl _)
  refine ⟨max K1 (max K ((240 - 0) * (S.length + 1) + (S.length - 0) + 1)), fun k hk => ?_⟩
  show galoisref23_Close.f k (n : Int) (S.map Pm.l) = _
  unfold galoisref23_Close.f
  rw [h1 k (by omega), Option.bind_some, Option.bind_some]
  exact hK k (by omega) k (by omega)
end Go.Proofs.Ytmbldnoepjmhhaa.QCl
end
section
/- What permgroup.Stabilizer comes to; the first level of a chain that moves a point. -/
namespace Go.Proofs.Ytmbldnoepjmhhaa.QStab
open Go.RowKit Go.Proofs.YtmbldnoepjmhhaaW.PrintWords Go.Proofs.Ytmbldnoepjmhhaa.Plain Go.Proofs.Ytmbldnoepjmhhaa.Pms Go.Proofs.Ytmbldnoepjmhhaa.Bs Go.Proofs.Ytmbldnoepjmhhaa.PBs Go.Proofs.Ytmbldnoepjmhhaa.PAll
variable {n : Nat}
theorem group_val (hn : n ≤ 20) (T : List (Pm n)) {F : List (Pm n)} (hF : F.Pairwise Lt) (hG : ∀ p, p ∈ F ↔ Gen T p) (hl : F.length ≤ 5040) : permgroup_group.f (n : Int) (T.map Pm.l) = some ((n : Int), (greedy F []).map Pm.l, 0) := by
  obtain ⟨A, E, h1, h2, e1, e2, e3, e4⟩ := grp_spec hn T
  have hEF : E = F := sorted_eq e1 hF (fun p => by rw [e2, hG])
  subst hEF
  unfold permgroup_group.f permgroup_elements.f
  rw [if_pos ⟨Int.natCast_nonneg _, by omega⟩, Int.toNat_natCast, h1, Option.bind_some, e3, if_neg (by omega), e4 (by omega), Option.bind_some, Option.bind_some]
  show (if (0 : Int) = 0 then (reducedM (n : Int).toNat (E.map Pm.l)).bind fun r => some ((n : Int), r, (0 : Int)) else some (0, [], 0)) = _
  rw [if_pos rfl, Int.toNat_natCast, reduced_spec hn (sorted_nodup e1) e2]
  rfl
end Go.Proofs.Ytmbldnoepjmhhaa.QStab
end
