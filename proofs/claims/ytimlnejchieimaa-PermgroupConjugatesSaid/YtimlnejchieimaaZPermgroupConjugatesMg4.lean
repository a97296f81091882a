/- Texts of this claim put together (wip/tools/merge.py). -/
import Derived.Test.YtimlnejchieimaaZPermgroupConjugatesMg1
import Derived.Test.YtimlnejchieimaaZPermgroupConjugatesSortI
import Derived.Test.YtimlnejchieimaaZPermgroupConjugatesPAllx0
import Derived.Test.YtimlnejchieimaaZPermgroupConjugatesMg3
import Derived.Test.YtimlnejchieimaaZPermgroupConjugatesMg0
section
/- The walk of (*Chain).Levels. -/
namespace Go.Proofs.Ytimlnejchieimaa.Bs
set_option linter.unusedVariables false
set_option linter.unusedSimpArgs false
open Go.RowKit Go.Sort Go.Shelf Go.Proofs.YtimlnejchieimaaW.PrintWords Go.Proofs.YtimlnejchieimaaW.PrintLast Go.Proofs.YtimlnejchieimaaW.PrintMore Go.Proofs.Ytimlnejchieimaa.Plain Go.Proofs.Ytimlnejchieimaa.PBs Go.Proofs.Ytimlnejchieimaa.PAll
attribute [local go_sem] max2_int min2_int max_two min_two max_three min_three max_four min_four
def wordsL (C : Ch) (k : Nat) : List Int → List (List Int) → Option (List (List Int))
  | [], acc => some acc
  | y :: r, acc => (C.word k y).bind fun o => o.bind fun w => (leastM C 30 (k + 1) w).bind fun u => wordsL C k r (acc ++ [u])
def levelsL (C : Ch) : Nat → Nat → List S66 → Option (List S66)
  | 0, _, _ => none
  | q + 1, k, out => if k < C.n then (C.levels[k]?).bind fun L => if L.orbit.length < 1000 then (if L.orbit.length < 2 then levelsL C q (k + 1) out else if k + 1 < C.n then (wordsL C k (sortInts L.orbit) []).bind fun ws => levelsL C q (k + 1) (out ++ [⟨(k : Int), sortInts L.orbit, ws⟩]) else none) else none
    else some out
def levelsM (C : Ch) : Option (List S66) := levelsL C 30 0 []
def sortI_ren : Go.Shelf.Ren := ⟨fun | 189 => 88 | 125 => 108 | 257 => 107 | 128 => 124 | 129 => 125 | 294 => 115 | 295 => 116 | 296 => 117 | 297 => 118 | 298 => 119 | 299 => 120 | 216 => 121 | 300 => 122 | 301 => 123 | 328 => 136 | 329 => 137 | 330 => 138 | 331 => 139 | 332 => 140 | 215 => 141 | 343 => 145 | n => n, fun | 28 => 46 | 3 => 3 | 46 => 130 | 0 => 0 | 51 => 75 | 53 => 146 | 4 => 4 | 183 => 138 | 182 => 137 | 131 => 91 | 5 => 5 | 9 => 9 | 218 => 153 | 222 => 157 | 228 => 161 | 229 => 162 | n => n, fun | n => n⟩
theorem sortI : Go.Proofs.Lays.n189 Try.prog sortI_ren := ⟨(by kernel_rfl),
  Try.func108.trans (congrArg some (by kernel_rfl)),
  Try.func124.trans (congrArg some (by kernel_rfl)),
  Try.func125.trans (congrArg some (by kernel_rfl)),
  Try.func88.trans (congrArg some (by kernel_rfl)),
  Try.func141.trans (congrArg some (by kernel_rfl)),
  Try.func121.trans (congrArg some (by kernel_rfl)),
  Try.func107.trans (congrArg some (by kernel_rfl)),
  Try.func115.trans (congrArg some (by kernel_rfl)),
  Try.func116.trans (congrArg some (by kernel_rfl)),
  Try.func117.trans (congrArg some (by kernel_rfl)),
  Try.func118.trans (congrArg some (by kernel_rfl)),
  Try.func119.trans (congrArg some (by kernel_rfl)),
  Try.func120.trans (congrArg some (by kernel_rfl)),
  Try.func122.trans (congrArg some (by kernel_rfl)),
  Try.func123.trans (congrArg some (by kernel_rfl)),
  Try.func136.trans (congrArg some (by kernel_rfl)),
  Try.func137.trans (congrArg some (by kernel_rfl)),
  Try.func138.trans (congrArg some (by kernel_rfl)),
  Try.func139.trans (congrArg some (by kernel_rfl)),
  Try.func140.trans (congrArg some (by kernel_rfl)),
  Try.func145.trans (congrArg some (by kernel_rfl)),
  Try.underlying0,
  Try.isAgg0,
  Try.sizeOf0,
  Try.zeroValue0,
  Try.underlying3,
  Try.isAgg3,
  Try.sizeOf3,
  Try.zeroValue3,
  Try.underlying4,
  Try.isAgg4,
  Try.sizeOf4,
  Try.zeroValue4,
  Try.underlying5,
  Try.isAgg5,
  Try.sizeOf5,
  Try.zeroValue5,
  Try.underlying9,
  Try.isAgg9,
  Try.sizeOf9,
  Try.zeroValue9,
  Try.underlying46,
  Try.isAgg46,
  Try.sizeOf46,
  Try.zeroValue46,
  Try.underlying130,
  Try.isAgg130,
  Try.sizeOf130,
  Try.zeroValue130,
  Try.underlying75,
  Try.isAgg75,
  Try.sizeOf75,
  Try.zeroValue75,
  Try.underlying146,
  Try.isAgg146,
  Try.sizeOf146,
  Try.zeroValue146,
  Try.underlying91,
  Try.isAgg91,
  Try.sizeOf91,
  Try.zeroValue91,
  Try.underlying137,
  Try.isAgg137,
  Try.sizeOf137,
  Try.zeroValue137,
  Try.underlying138,
  Try.isAgg138,
  Try.sizeOf138,
  Try.zeroValue138,
  Try.underlying153,
  Try.isAgg153,
  Try.sizeOf153,
  Try.zeroValue153,
  Try.underlying157,
  Try.isAgg157,
  Try.sizeOf157,
  Try.zeroValue157,
  Try.underlying161,
  Try.isAgg161,
  Try.sizeOf161,
  Try.zeroValue161,
  Try.underlying162,
  Try.isAgg162,
  Try.sizeOf162,
  Try.zeroValue162⟩
set_option maxHeartbeats 16000000 in
set_option maxRecDepth 100000 in
theorem levels_any {ρ : Nat → Nat} {w : World} {base c capL : Nat} {la : Option Addr} {C : Ch} {d : Nat → LD} {r : List S66} (hR : ChainAt ρ w base c la capL C d) (h : levelsM C = some r) :
    Calls Try.prog 59 #[.pointer (some ⟨c, 0, none⟩)] w fun e w' => ∃ v', e = .returned v' ∧ Kd.S k66 66 w' w.heap.size (fun _ => True) v' r ∧ Below w.heap.size w w' := by
  have HR := Aside0.mk hR
  have hn := hR.hn
  have hl := hR.hl
  have HSM := Aside0.mk hR.small
  have HCAP := hR.hcap
  have H := Aside0.mk h
  obtain ⟨W0, hW0⟩ : ∃ W0 : World, W0 = w := ⟨_, rfl⟩
  have HS0 : Aside0 (Kd.S k66 66 w W0.heap.size (fun _ => True) (.slice none 0 0) []) := ⟨Kd.S_nil _ _ _ _ _⟩
  clear hR h
  go_enter Try.func59, Try.ntmps59
  go_wp2
  have HW00 : Aside0 (Below W0.heap.size W0 w) := ⟨by rw [hW0]; exact Below.refl _ _⟩
  go_loopg [3, 14] 30 (fun kq v3 v14 w' => ∃ (k : Nat) (out_ : List S66), v14 = .int .i64 (k : Int) ∧ Aside0 (Kd.S k66 66 w' W0.heap.size (fun _ => True) v3 out_) ∧ Aside0 (levelsL C kq k out_ = some r) ∧ Aside0 (Below w.heap.size w w') ∧ Aside0 (k ≤ C.n) ∧ Aside0 (out_.length + kq ≤ 30))
  case atStart => exact ⟨0, [], (by first | rfl | (simp; done)), HS0, H, ⟨Below.refl _ _⟩, ⟨Nat.zero_le _⟩, ⟨by decide⟩⟩
  case round =>
    clear H HS0
    obtain ⟨k, out_, rfl, HS, HA, HB, HK, HOUT⟩ := hrel
    cases gk with
    | zero => exact absurd HA.out (by simp [levelsL])
    | succ q1_ =>
      have h := HA.out
      clear HA
      rw [levelsL] at h
      have R := HR.out.below HB.out
      by_cases hk : k < C.n
      · rw [if_pos hk] at h
        replace h := Option.bind_eq_some_iff.1 h
        obtain ⟨L, hL, h⟩ := h
        have HOL : Aside0 (L.orbit.length < 1000) := by
          by_cases e : L.orbit.length < 1000
          · exact ⟨e⟩
          · rw [if_neg e] at h; cases h
        rw [if_pos HOL.out] at h
        have HKN := Aside0.mk hk
        have HL := Aside0.mk hL
        have hk1 : (k < C.n) = True := eq_true hk
        have hk2 : ((k : Int) < (C.n : Int)) = True := eq_true (by omega)
        have hk3 : (0 ≤ (k : Int)) = True := eq_true (by omega)
        have wk : wrap64 ((k : Int) + 1) = ((k + 1 : Nat) : Int) := (IntWalk.wrap64_in _ ⟨by omega, by have := HSM.out; omega⟩).trans (by omega)
        obtain ⟨bls, ela, _, hcl⟩ := R.ls (by omega)
        subst ela
        have hlev := hcl k hk
        have LV := R.lv k L hL
        have hpt := LV.c0
        obtain ⟨Ao, co, hco, hlo, hCo⟩ := LV.orbit_at
        have HCO := Aside0.mk hCo
        have HLO := Aside0.mk hlo
        have hrow := LV.c2
        obtain ⟨Av, cv, ev⟩ := Kd.R_slice (Kd.S_R HS.out)
        subst ev
        clear hcl hL LV hCo hlo R hk
        by_cases hlt : L.orbit.length < 2
        · rw [if_pos hlt] at h
          have H := Aside0.mk h
          have hlt2 : decide ((L.orbit.length : Int) < 2) = true := decide_eq_true (by omega)
          clear h hlt
          go_wp2
          go_roundg q1_
          case measure => exact Nat.lt_succ_self _
          case rel => exact ⟨k + 1, out_, (by first | (rw [wk]; done) | rfl), HS, H, HB, ⟨HKN.out⟩, ⟨by have := HOUT.out; omega⟩⟩
        · rw [if_neg hlt] at h
          have hlt2 : decide ((L.orbit.length : Int) < 2) = false := decide_eq_false (by omega)
          have HL2 := Aside0.mk (show 2 ≤ L.orbit.length by omega)
          have HK1 : Aside0 (k + 1 < C.n) := by
            by_cases e : k + 1 < C.n
            · exact ⟨e⟩
            · rw [if_neg e] at h; cases h
          rw [if_pos HK1.out] at h
          replace h := Option.bind_eq_some_iff.1 h
          obtain ⟨ws, hws, h⟩ := h
          have H := Aside0.mk h
          have HWS := Aside0.mk hws
          clear h hlt hws
          obtain ⟨wo, hwo⟩ : ∃ wo : World, wo = wr := ⟨_, rfl⟩
          subst hwo
          have HSZ := Aside0.mk HB.out.size
          have hdb : (d k).bl < wo.heap.size := World.block_lt_of_cell? wo _ hpt
          have hdb1 : (d k).bl < wo.heap.size + 1 := Nat.lt_succ_of_lt hdb
          have hdb2 : (d k).bl ≠ wo.heap.size := Nat.ne_of_lt hdb
          have hu66 := Try.underlying66
          go_wp2
          go_cut [6] (fun v6 wx => ∃ (xb : Nat) (A1 : Option Addr) (c1 : Nat), v6 = .pointer (some ⟨xb, 0, none⟩) ∧ Aside0 (wx.heap[xb]? = some (.cells #[.int .i64 (k : Int), .slice A1 L.orbit.length c1, .slice none 0 0] 66 (0, 0))) ∧ Aside0 (Kd.R (Kd.int .i64) 3 wx wo.heap.size (fun _ => True) (.slice A1 L.orbit.length c1) L.orbit) ∧ Aside0 (wo.heap.size ≤ xb) ∧ Aside0 (Below wo.heap.size wo wx))
          case first =>
            go_region_with (go_at_call 87; (refine (clone_any (p := L.orbit) ⟨_, _, rfl, HLO.out, Kd.C_below HCO.out (by repeat (first | (with_reducible first | exact Below.refl _ _ | apply below_alloc | apply pw_below_drewN | apply below_drew1) | exact Below.refl _ _))⟩ (by have := HOL.out; omega)).mono ?_); rintro e w1 ⟨v1, rfl, hr1, hb1⟩; have HR1 := Aside0.mk hr1; have HB1 := Aside0.mk (below_step (w := wo) (by repeat (first | (with_reducible first | exact Below.refl _ _ | apply below_alloc | apply pw_below_drewN | apply below_drew1) | exact Below.refl _ _)) hb1); have HR1 := Aside0.mk (Kd.R_lower HR1.out (show wo.heap.size ≤ _ from by first | exact Nat.le_refl _ | simp)); have hpt1 := (World.cell?_of_block (w := wo) (w' := w1) (HB1.out.block _ (World.block_lt_of_cell? wo _ hpt))).trans hpt; have hdw : (d k).bl < w1.heap.size := Nat.lt_of_lt_of_le hdb HB1.out.size; have hdw1 : (d k).bl < w1.heap.size + 1 := Nat.lt_succ_of_lt hdw; have hdw2 : (d k).bl ≠ w1.heap.size := Nat.ne_of_lt hdw; obtain ⟨A1, c1, e1⟩ := Kd.R_slice hr1; subst e1; (try (have hkx := Aside0.mk ((hb1.block wo.heap.size (by simp)).trans (blk_new wo (.cells #[.int .i64 0, .slice none 0 0, .slice none 0 0] 66))); have hc0 : w1.cell? ⟨wo.heap.size, 0, none⟩ = some (.int .i64 0) := blk_cell hkx.out 0; have hc1 : w1.cell? ⟨wo.heap.size, 1, none⟩ = some (.slice none 0 0) := blk_cell hkx.out 1; have hc2 : w1.cell? ⟨wo.heap.size, 2, none⟩ = some (.slice none 0 0) := blk_cell hkx.out 2; have hf0 : w1.frozen? ⟨wo.heap.size, 0, none⟩ = false := blk_frozen hkx.out 0; have hf1 : w1.frozen? ⟨wo.heap.size, 1, none⟩ = false := blk_frozen hkx.out 1; have hf2 : w1.frozen? ⟨wo.heap.size, 2, none⟩ = false := blk_frozen hkx.out 2)); clear hr1 hb1)
            all_goals
              go_wp2_with fail
              go_meet
              first
              | exact ⟨_, A1, c1, rfl, ⟨blk_new _ _⟩, ⟨Kd.R_below HR1.out (below_alloc (Below.refl _ _) _)⟩, ⟨HB1.out.size⟩, ⟨below_alloc HB1.out _⟩⟩
              | (have p1 := blk_put hkx.out 0 (.int .i64 (k : Int)) rfl
                 have p2 := blk_put p1 1 (.slice A1 L.orbit.length c1) rfl
                 have p3 := blk_put p2 2 (.slice none 0 0) rfl
                 have hty : ∀ q, q ∈ 3 :: (Kd.int .i64).E → q ≠ 66 := by decide
                 exact ⟨_, A1, c1, rfl, ⟨p3⟩, ⟨Kd.R_set (Kd.R_set (Kd.R_set HR1.out hkx.out hty 0 _) p1 hty 1 _) p2 hty 2 _⟩, ⟨Nat.le_refl _⟩, ⟨((HB1.out.setCell (Nat.le_refl _) _).setCell (Nat.le_refl _) _).setCell (Nat.le_refl _) _⟩⟩)
          case rest =>
            obtain ⟨xb, A1, c1, rfl, HX, HR1, HXB, HBX⟩ := hcut
            have hx0 : wc.cell? ⟨xb, 0, none⟩ = some (.int .i64 (k : Int)) := blk_cell HX.out 0
            have hx1 : wc.cell? ⟨xb, 1, none⟩ = some (.slice A1 L.orbit.length c1) := blk_cell HX.out 1
            have hx2 : wc.cell? ⟨xb, 2, none⟩ = some (.slice none 0 0) := blk_cell HX.out 2
            have HXL := Aside0.mk (World.block_lt_of_cell? wc ⟨xb, 0, none⟩ hx0)
            clear hco hpt hdb hdb1 hdb2
            obtain ⟨sl, hsl⟩ : ∃ sl, sortInts L.orbit = sl := ⟨_, rfl⟩
            have HSL := Aside0.mk (show sl.length = L.orbit.length by rw [← hsl]; exact (sortInts_perm _).length_eq)
            have HE := Aside0.mk hsl
            have hws := HWS.out
            have h9 := H.out
            rw [hsl] at hws h9
            have HWS := Aside0.mk hws
            have H := Aside0.mk h9
            clear hws h9 hsl
            go_wp2_with (go_at_call 88; (refine (sortInts_row sortI (w := wo) (W := wc) HR1.out (Nat.le_refl _) HBX.out (by have := HL2.out; omega) (by have := HOL.out; omega)).mono ?_); rintro e w3 ⟨rfl, hr3, hb3, hk3⟩; rw [HE.out] at hr3; have HR3 := Aside0.mk (Kd.R_mono (Kd.R_bound hr3) (fun b hb => show b < w3.heap.size from hb.2.2.1)); have HXL3 := Aside0.mk (World.block_lt_of_cell? w3 ⟨xb, 0, none⟩ (blk_cell ((hk3 xb HXL.out (Kd.R_ne HR1.out HX.out (by decide))).trans HX.out) 0)); have HB3 := Aside0.mk hb3; have HX3 := Aside0.mk ((hk3 xb HXL.out (Kd.R_ne HR1.out HX.out (by decide))).trans HX.out); have hy0 : w3.cell? ⟨xb, 0, none⟩ = some (.int .i64 (k : Int)) := blk_cell HX3.out 0; have hy1 : w3.cell? ⟨xb, 1, none⟩ = some (.slice A1 L.orbit.length c1) := blk_cell HX3.out 1; clear hr3 hb3 hk3)
            have HS3 := Aside0.mk (Kd.S_step (Kd.S_mono (Kd.S_bound HS.out) (fun b hb => show b < wo.heap.size from hb.2.2.1)) (fun b hb hlt => HB3.out.block b hb))
            go_loopg [44] L.orbit.length (fun kq v44 w' => ∃ (j : Nat) (acc : List (List Int)) (vw : Value), v44 = .int .i64 (j : Int) ∧ Aside0 (w'.heap[xb]? = some (.cells #[.int .i64 (k : Int), .slice A1 L.orbit.length c1, vw] 66 (0, 0))) ∧ Aside0 (Kd.S (Kd.slice 3 (Kd.int .i64)) 47 w' wo.heap.size (fun b => w3.heap.size ≤ b) vw acc) ∧ Aside0 (Kd.R (Kd.int .i64) 3 w' wo.heap.size (fun b => b < w3.heap.size) (.slice A1 L.orbit.length c1) sl) ∧ Aside0 (wordsL C k (sl.drop j) acc = some ws) ∧ Aside0 (Below wo.heap.size wo w') ∧ Aside0 (w3.heap.size ≤ w'.heap.size) ∧ Aside0 (j + kq = L.orbit.length) ∧ Aside0 (acc.length = j))
            case atStart => exact ⟨0, [], _, (by first | rfl | (simp; done)), HX3, ⟨Kd.S_nil _ _ _ _ _⟩, HR3, HWS, HB3, ⟨Nat.le_refl _⟩, ⟨by omega⟩, ⟨rfl⟩⟩
            case round =>
              clear hx0 hx1 hx2 hy0 hy1 HX HR1 HBX HX3 HR3 HWS HB3 HXL
              obtain ⟨j, acc, vw, rfl, HZ, HSW, HRS, HA, HB2, HGE, HJ, HACC⟩ := hrel
              have HXW := Aside0.mk (Nat.lt_of_lt_of_le HXL3.out HGE.out)
              have hz0 : wr.cell? ⟨xb, 0, none⟩ = some (.int .i64 (k : Int)) := blk_cell HZ.out 0
              have hz1 : wr.cell? ⟨xb, 1, none⟩ = some (.slice A1 L.orbit.length c1) := blk_cell HZ.out 1
              obtain ⟨Aw, cw, ew⟩ := Kd.R_slice (Kd.S_R HSW.out)
              subst ew
              have hz2 : wr.cell? ⟨xb, 2, none⟩ = some (.slice Aw acc.length cw) := blk_cell HZ.out 2
              have h := HA.out
              clear HA
              cases gk with
              | zero =>
                have hj : (j < L.orbit.length) = False := eq_false (by have := HJ.out; omega)
                rw [List.drop_eq_nil_of_le (by have := HJ.out; have := HSL.out; omega)] at h
                have h := Option.some.inj h
                subst h
                have HEL : Aside0 (k66.M wr W0.heap.size (fun b => wo.heap.size ≤ b) (⟨(k : Int), sl, acc⟩ : S66) [.int .i64 (k : Int), .slice A1 L.orbit.length c1, .slice Aw acc.length cw]) := ⟨k66_mkM wr W0.heap.size (fun b => wo.heap.size ≤ b) ⟨(k : Int), sl, acc⟩ (Kd.R_lower (Kd.R_mono (Kd.R_bound HRS.out) (fun b hb => hb.2.1)) (by rw [hW0]; exact HSZ.out)) (Kd.R_lower (Kd.R_mono (Kd.R_bound (Kd.S_R HSW.out)) (fun b hb => hb.2.1)) (by rw [hW0]; exact HSZ.out))⟩
                have HSO := Aside0.mk (Kd.S_step (Kd.S_mono (Kd.S_bound HS.out) (fun b hb => show b < wo.heap.size from hb.2.2.1)) (fun b hb hlt => HB2.out.block b hb))
                go_wp2_with ((with_reducible refine gate_builtin (b := .append) (xs := #[.tmp 65, .tmp 67]) rfl ?_); at_builtin; refine Kd.S_append k66 (w0 := w) (W := wr) W0.heap.size rfl (.tmp 65) (.tmp 67) 35 66 (.agg #[(.int .i64 0), (.slice none 0 0), (.slice none 0 0)]) 56 rfl Try.underlying35 info66 rfl (by decide) (by omega) (.slice Av out_.length cv) out_ (⟨(k : Int), sl, acc⟩ : S66) [.int .i64 (k : Int), .slice A1 L.orbit.length c1, .slice Aw acc.length cw] (fun _ => True) (fun b => wo.heap.size ≤ b) rfl ?aX HEL.out ?aK (fun _ _ => trivial) ?aO ?aB ?aS ?aL ?_; (case aX => show Value.slice (some ⟨wr.heap.size, 0, none⟩) 1 1 = _; simp); (case aK => exact fun b hb => ⟨trivial, fun e => by have h8 : b < wo.heap.size := (Kd.S_R HSO.out).1 b e.symm; omega⟩); (case aO => exact Kd.S_mono HSO.out (fun b hb => ⟨trivial, Nat.not_le.2 hb⟩)); (case aB => rw [hW0]; exact below_step HB.out HB2.out); (case aS => rw [hW0]; exact (below_step HB.out HB2.out).size); (case aL => have := HOUT.out; omega); intro v1 w1 ho hb hg hat; obtain ⟨Ao1, co1, eo1⟩ := Kd.R_slice (Kd.S_R ho); subst eo1; have el : (out_ ++ [(⟨(k : Int), sl, acc⟩ : S66)]).length = out_.length + 1 := (by simp); rw [el] at ho; have HO1 := Aside0.mk ho; rw [hW0] at hb; have HB9 := Aside0.mk hb; have HEL2 := Aside0.mk el; clear ho hg hat hb el)
                go_roundg q1_
                case measure => exact Nat.lt_succ_self _
                case rel => exact ⟨k + 1, _, (by first | (rw [wk]; done) | rfl), HO1, H, HB9, ⟨HKN.out⟩, ⟨by rw [HEL2.out]; have := HOUT.out; omega⟩⟩
              | succ m1 =>
                have HHL : Aside0 ((acc.length + 1) * 24 ≤ 140737488355328) := ⟨by have := HACC.out; have := HJ.out; have := HOL.out; omega⟩
                have hjl : j < sl.length := by have := HJ.out; have := HSL.out; omega
                have hj : (j < L.orbit.length) = True := eq_true (by have := HSL.out; omega)
                have hj2 : ((j : Int) < (L.orbit.length : Int)) = True := eq_true (by have := HSL.out; omega)
                have hj0 : (0 ≤ (j : Int)) = True := eq_true (by omega)
                have HJ2 : Aside0 (j + 1 + m1 = L.orbit.length) := ⟨by have := HJ.out; omega⟩
                rw [List.drop_eq_getElem_cons hjl, wordsL] at h
                replace h := Option.bind_eq_some_iff.1 h
                obtain ⟨o, hw, h⟩ := h
                replace h := Option.bind_eq_some_iff.1 h
                obtain ⟨wd, ho, h⟩ := h
                subst ho
                replace h := Option.bind_eq_some_iff.1 h
                obtain ⟨u, h2, h⟩ := h
                obtain ⟨x0, L_, hL_, ho⟩ := word_some hw
                have RW := HR.out.below (below_step HB.out HB2.out)
                have LV_ := RW.lv k L_ hL_
                obtain ⟨X, hX⟩ : ∃ X : Nat, sl[j] = (X : Int) := ⟨sl[j].toNat, by omega⟩
                rw [hX, Int.toNat_natCast] at ho
                obtain ⟨hxn, wv, hv, _, hwd⟩ := LV_.word ho
                obtain ⟨aw_, cw_, ew, hcw, hCw⟩ := hwd.1.addr hwd.2
                rw [ew] at hv
                have hrow := LV_.c2
                have q1 : (0 ≤ (X : Int)) = True := eq_true (by omega)
                have q2 : ((X : Int) < (C.n : Int)) = True := eq_true (by omega)
                obtain ⟨_, _, eR, _, hCR⟩ := Kd.R_reads HRS.out
                injection eR with e1 e2 e3
                subst e1; subst e3
                clear e2
                obtain ⟨adr, er, hcr⟩ := Kd.at_int hCR (j : Int) (by omega) (by omega)
                rw [rd_get _ _ hjl, hX, Int.toNat_natCast] at hcr
                subst er
                have A2 := Aside0.mk h2
                have H2 := Aside0.mk h
                have HPW := Aside0.mk (show PermAt wr (.slice (some aw_) wd.length cw_) wd from ⟨_, _, rfl, hcw, hCw⟩)
                have wk2 : IntKind.i64.wrap ((k : Int) + 1) = ((k + 1 : Nat) : Int) := (IntWalk.i64_in _ (by have := HKN.out; have := HSM.out; omega)).trans (by omega)
                have wi : wrap64 ((j : Int) + 1) = ((j + 1 : Nat) : Int) := (IntWalk.wrap64_in _ ⟨by omega, by have := HOL.out; have := HSL.out; omega⟩).trans (by omega)
                have hxw : xb < wr.heap.size := HXW.out
                clear h h2 hwd ho hL_ LV_ hw ew RW hX hCR hcw hCw
                go_wp2
                go_region_law (first
                  | (refine Kd.S_append_step (Kd.slice 3 (Kd.int .i64)) (w0 := wo) wo.heap.size (by rfl) (.tmp 49) (.tmp 61) 22 47 (.slice none 0 0) 24 rfl Try.underlying22 info47 rfl (by decide) (by omega) (.slice Aw acc.length cw) acc u [.slice A6 u.length c6] (fun b => w3.heap.size ≤ b) (fun b => some b = (Value.slice A6 u.length c6).ownBlock) ?hs ?hx ?hp ?hokp ?hf ?hO ?hB ?hb ?hl ?_; (case hs => exact rfl); (case hx => exact rfl); (case hp => exact ⟨_, rfl, Kd.R_tight rfl HR6.out⟩); (case hokp => exact (fun b hb => HN6.out b hb)); (case hf => exact (fun b hb => Nat.le_trans (Nat.le_trans HGE.out HB6.out.size) hb)); (case hO => exact HS6.out); (case hB => exact (below_step HB2.out HB6.out)); (case hb => exact (below_step HB2.out HB6.out).size); (case hl => exact HHL.out); intro v1 w1 ho hb hg hat; have HZ1 := Aside0.mk ((hg.block xb (Nat.lt_of_lt_of_le HXW.out HB6.out.size) HNX.out).trans HZ6.out); have ha0 : w1.cell? ⟨xb, 2, none⟩ = some (.slice Aw acc.length cw) := blk_cell HZ1.out 2; have hf0 : w1.frozen? ⟨xb, 2, none⟩ = false := blk_frozen HZ1.out 2; have HR9 := Aside0.mk (Kd.R_step HRS6.out (fun b hb2 hlt => hg.block b hlt (fun e => Nat.lt_irrefl b (Nat.lt_of_lt_of_le (show b < w3.heap.size from hb2) (HVW.out b e.symm))))); have el : (acc ++ [u]).length = acc.length + 1 := (by simp); obtain ⟨Ao1, co1, eo1⟩ := Kd.R_slice (Kd.S_R ho); subst eo1; rw [el] at ho ⊢; have HO1 := Aside0.mk ho; have HB9 := Aside0.mk hb; have HGE9 := Aside0.mk (Nat.le_trans (Nat.le_trans HGE.out HB6.out.size) hg.size); clear ho hg hat hb el)
                  | (go_simp; go_at_call 89; (refine (least_any (HR.out.below (below_step HB.out (below_step HB2.out (w2 := _) (by repeat (first | (with_reducible first | exact Below.refl _ _ | apply below_alloc | apply pw_below_drewN | apply below_drew1) | exact Below.refl _ _))))) (HPW.out.below (by repeat (first | (with_reducible first | exact Below.refl _ _ | apply below_alloc | apply pw_below_drewN | apply below_drew1) | exact Below.refl _ _))) HK1.out 30 (Nat.le_refl _) A2.out).mono ?_); rintro e w6 ⟨v6, rfl, hr6, hb6⟩; have HB6 := Aside0.mk (below_step (w := wr) (by repeat (first | (with_reducible first | exact Below.refl _ _ | apply below_alloc | apply pw_below_drewN | apply below_drew1) | exact Below.refl _ _)) hb6); have hr7 := Kd.R_lower hr6 (show wr.heap.size ≤ _ from by first | exact Nat.le_refl _ | simp); obtain ⟨A6, c6, e6⟩ := Kd.R_slice hr7; subst e6; have HR6 := Aside0.mk (Kd.R_lower hr7 HB2.out.size); have HN6 : Aside0 (∀ b, some b = (Value.slice A6 u.length c6).ownBlock → w3.heap.size ≤ b ∧ some b ≠ (Value.slice Aw acc.length cw).ownBlock) := ⟨fun b hb => ⟨Nat.le_trans HGE.out (Kd.R_base hr7 b hb.symm), fun e => by have h1 := Kd.R_base hr7 b hb.symm; have h2 := Kd.R_lt (Kd.S_R HSW.out) b e.symm; omega⟩⟩; have HVW : Aside0 (∀ b, (Value.slice Aw acc.length cw).ownBlock = some b → w3.heap.size ≤ b) := ⟨fun b hb => (Kd.S_R HSW.out).1 b hb⟩; have HNX : Aside0 (some xb ≠ (Value.slice Aw acc.length cw).ownBlock) := ⟨fun e => by have h1 := HVW.out xb e.symm; have h2 := HXL3.out; omega⟩; have HS6 := Aside0.mk (Kd.S_mono (ok' := fun b => w3.heap.size ≤ b ∧ ¬ some b = (Value.slice A6 u.length c6).ownBlock) (Kd.S_step (w1 := w6) (Kd.S_mono (ok' := fun b => w3.heap.size ≤ b ∧ b < wr.heap.size) (Kd.S_bound HSW.out) (fun b hb => ⟨hb.1, hb.2.2.1⟩)) (fun b hb hlt => HB6.out.block b hb.2)) (fun b hb => ⟨hb.1, fun e => Nat.lt_irrefl b (Nat.lt_of_lt_of_le hb.2 (Kd.R_base hr7 b e.symm))⟩)); have HRS6 := Aside0.mk (Kd.R_below HRS.out HB6.out); have HZ6 := Aside0.mk ((HB6.out.block xb HXW.out).trans HZ.out); have hz26 : w6.cell? ⟨xb, 2, none⟩ = some (.slice Aw acc.length cw) := blk_cell HZ6.out 2; have hxw6 : xb < w6.heap.size := Nat.lt_of_lt_of_le HXW.out HB6.out.size; have hxn6 : xb ≠ w6.heap.size := Nat.ne_of_lt hxw6; clear hr6 hb6 hr7))
                all_goals
                  have p2 := blk_put HZ1.out 2 (.slice Ao1 (acc.length + 1) co1) rfl
                  have hty3 : ∀ q, q ∈ 3 :: (Kd.int .i64).E → q ≠ 66 := by decide
                  have hty47 : ∀ q, q ∈ 47 :: (Kd.slice 3 (Kd.int .i64)).E → q ≠ 66 := by decide
                  have S9 := Kd.S_set HO1.out HZ1.out hty47 2 (.slice Ao1 (acc.length + 1) co1)
                  have R9 := Kd.R_set HR9.out HZ1.out hty3 2 (.slice Ao1 (acc.length + 1) co1)
                  go_wp2
                  go_roundg m1
                  case measure => exact Nat.lt_succ_self _
                  case rel => exact ⟨j + 1, acc ++ [u], _, (by first | (rw [wi]; done) | rfl), ⟨p2⟩, ⟨S9⟩, ⟨R9⟩, H2, ⟨HB9.out.setCell HXB.out _⟩, ⟨by simpa using HGE9.out⟩, HJ2, ⟨by rw [List.length_append, HACC.out]; rfl⟩⟩
      · rw [if_neg hk] at h
        cases h
        have hk1 : (k < C.n) = False := eq_false hk
        obtain ⟨Av, cv, ev⟩ := Kd.R_slice (Kd.S_R HS.out)
        subst ev
        clear R hk
        go_wp2
        go_ret
        exact ⟨_, rfl, (by rw [← hW0]; exact HS.out), HB.out⟩
end Go.Proofs.Ytimlnejchieimaa.Bs
end
section
/- The function Chain of package permgroup. -/
namespace Go.Proofs.Ytimlnejchieimaa.Bs
set_option linter.unusedVariables false
set_option linter.unusedSimpArgs false
open Go.RowKit Go.Sort Go.Shelf Go.Proofs.YtimlnejchieimaaW.PrintWords Go.Proofs.YtimlnejchieimaaW.PrintLast Go.Proofs.YtimlnejchieimaaW.PrintMore Go.Proofs.Ytimlnejchieimaa.Plain Go.Proofs.Ytimlnejchieimaa.PBs Go.Proofs.Ytimlnejchieimaa.PAll
attribute [local go_sem] max2_int min2_int max_two min_two max_three min_three max_four min_four
def permgroup_Chain.f (k : Nat) (a0_0 : Int) (l0_1 : List (List Int)) : Option (List S66 × Int) := (permgroup_Check.f k a0_0 l0_1).bind fun e => if e = 0 then (if 0 ≤ a0_0 ∧ a0_0 ≤ 20 then (new_ a0_0.toNat l0_1).bind fun C => (levelsM C).bind fun r => some (r, 0) else none) else some ([], e)
theorem permgroup_Chain.mono : ∀ a0_0 l0_1 k, LeO (permgroup_Chain.f k a0_0 l0_1) (permgroup_Chain.f (k + 1) a0_0 l0_1) := fun a0_0 l0_1 k => LeO.bind (permgroup_Check.mono _ _ _) (fun _ => LeO.refl _)
set_option maxHeartbeats 4000000 in
set_option maxRecDepth 100000 in
theorem permgroup_Chain.calls (k : Nat) (a0_0 : Int) (A0_1 : Option Addr) (c0_1 : Nat) (l0_1 : List (List Int)) (r1 : List S66) (r2 : Int) (w : World) (hr0_1 : Kd.C (Kd.slice 3 (Kd.int .i64)) w A0_1 l0_1.length l0_1) (hc0_1 : l0_1.length ≤ c0_1) (h : permgroup_Chain.f k a0_0 l0_1 = some (r1, r2)) :
    Calls Try.prog 15 #[.agg #[.int .i64 a0_0, .slice A0_1 l0_1.length c0_1]] w fun e w' => ∃ v0_ : Value, e = .returned (.tuple #[v0_, .int .i64 r2]) ∧ Kd.R k66 66 w' w.heap.size (fun _ => True) v0_ r1 ∧ Below w.heap.size w w' := by
  have hu := Try.underlying24
  have HC := Aside0.mk hc0_1
  have HG := Aside0.mk (Kd.C_below hr0_1 (below_alloc (Below.refl w.heap.size w) (.cells #[.int .i64 a0_0, .slice A0_1 l0_1.length c0_1] 24)))
  unfold permgroup_Chain.f at h
  replace h := Option.bind_eq_some_iff.1 h
  obtain ⟨e, h1, h⟩ := h
  have A1 := Aside0.mk h1
  clear hr0_1 hc0_1 h1
  by_cases e0 : e = 0
  · rw [if_pos e0] at h
    have hr : 0 ≤ a0_0 ∧ a0_0 ≤ 20 := by
      by_cases hr : 0 ≤ a0_0 ∧ a0_0 ≤ 20
      · exact hr
      · rw [if_neg hr] at h; cases h
    rw [if_pos hr] at h
    obtain ⟨n, rfl⟩ : ∃ n : Nat, a0_0 = (n : Int) := ⟨a0_0.toNat, by omega⟩
    rw [Int.toNat_natCast] at h
    replace h := Option.bind_eq_some_iff.1 h
    obtain ⟨C, h2, h⟩ := h
    replace h := Option.bind_eq_some_iff.1 h
    obtain ⟨r, h3, h⟩ := h
    obtain ⟨rfl, rfl⟩ := Prod.mk.inj (Option.some.inj h)
    have A2 := Aside0.mk h2
    have A3 := Aside0.mk h3
    have HN : Aside0 (n ≤ 20) := ⟨by omega⟩
    subst e0
    clear h h2 hr h3
    go_enter Try.func15, Try.ntmps15
    go_wp2_with (first
      | (go_at_call 16; (refine (permgroup_Check.calls k (n : Int) A0_1 c0_1 l0_1 0 _ HG.out HC.out A1.out).mono ?_); rintro e w1 ⟨rfl, hb1⟩; have HB1 := Aside0.mk (below_step (w := w) (below_alloc (Below.refl _ _) _) hb1); have HG1 := Aside0.mk (Kd.C_below HG.out hb1); have hcx := cell_move (w' := w1) (show (w.alloc (.cells #[.int .i64 (n : Int), .slice A0_1 l0_1.length c0_1] 24)).cell? ⟨w.heap.size, 0, none⟩ = some (.int .i64 (n : Int)) from by rw [World.cell?_alloc_at _ _ _ _ rfl]; rfl) (fun hlt => hb1.block _ hlt); have hcy := cell_move (w' := w1) (show (w.alloc (.cells #[.int .i64 (n : Int), .slice A0_1 l0_1.length c0_1] 24)).cell? ⟨w.heap.size, 1, none⟩ = some (.slice A0_1 l0_1.length c0_1) from by rw [World.cell?_alloc_at _ _ _ _ rfl]; rfl) (fun hlt => hb1.block _ hlt); clear hb1)
      | (go_at_call 55; (refine (chain_any n HN.out l0_1 A0_1 c0_1 _ HG1.out HC.out C A2.out).mono ?_); rintro e w2 ⟨c, la, capL, ρ, d, rfl, hCh, hb2⟩; have HCh := Aside0.mk hCh; have HB2 := Aside0.mk (below_step HB1.out hb2); clear hCh hb2)
      | (go_at_call 59; (refine (levels_any HCh.out A3.out).mono ?_); rintro e w3 ⟨v3, rfl, hs3, hb3⟩; have HS3 := Aside0.mk (Kd.S_lower hs3 HB2.out.size); have HB3 := Aside0.mk (below_step HB2.out hb3); obtain ⟨A3_, c3_, e3_⟩ := Kd.R_slice (Kd.S_R hs3); subst e3_; clear hb3 hs3))
    go_ret2
    exact ⟨_, rfl, Kd.S_R HS3.out, HB3.out⟩
  · rw [if_neg e0] at h
    obtain ⟨rfl, rfl⟩ := Prod.mk.inj (Option.some.inj h)
    have e1 : (e == 0) = false := beq_eq_false_iff_ne.mpr e0
    have e2 : (e != 0) = true := bne_iff_ne.mpr e0
    clear h e0
    go_enter Try.func15, Try.ntmps15
    go_wp2_with (go_at_call 16; (refine (permgroup_Check.calls k a0_0 A0_1 c0_1 l0_1 e _ HG.out HC.out A1.out).mono ?_); rintro e' w1 ⟨rfl, hb1⟩; have HB1 := Aside0.mk (below_step (w := w) (below_alloc (Below.refl _ _) _) hb1); clear hb1)
    go_ret2
    exact ⟨_, rfl, Kd.R_nil _ _ _ _ _, HB1.out⟩
end Go.Proofs.Ytimlnejchieimaa.Bs
end
section
/- Groups of permutations as the law functions meet them: checks, orders, conjugates, subgroups. -/
namespace Go.Proofs.Ytimlnejchieimaa.Pms
set_option linter.unusedVariables false
set_option linter.unusedSimpArgs false
open Go.RowKit Go.Proofs.Ytimlnejchieimaa.Plain Go.Proofs.Ytimlnejchieimaa.Bs Go.Proofs.YtimlnejchieimaaW.PrintWords
variable {n : Nat}
theorem chkE_zero {m : Int} {p : List Int} (h : chkE m p = 0) : ∃ (k : Nat) (q : Pm k), m = (k : Int) ∧ k ≤ 20 ∧ q.l = p := by
  unfold chkE at h
  by_cases h1 : chk p = 0
  · rw [if_pos h1] at h
    by_cases h2 : (p.length : Int) = m
    · obtain ⟨hl, hp⟩ := (chk_zero p).1 h1
      exact ⟨p.length, ⟨p, rfl, hp⟩, h2.symm, hl, rfl⟩
    · rw [if_neg h2] at h; omega
  · rw [if_neg h1] at h; exact absurd h h1
theorem chkE_Pm (hn : n ≤ 20) (p : Pm n) : chkE (n : Int) p.l = 0 := by
  unfold chkE
  rw [if_pos ((chk_zero _).2 ⟨by rw [p.len]; exact hn, p.ok⟩), if_pos (by rw [p.len])]
theorem chkE_to {p : List Int} (h : chkE (n : Int) p = 0) : ∃ q : Pm n, q.l = p := by
  obtain ⟨k, q, e, _, h2⟩ := chkE_zero h
  have e : n = k := by omega
  subst e
  exact ⟨q, h2⟩
theorem chkAll_to : ∀ {L : List (List Int)}, chkAll (n : Int) L = 0 → ∃ gens : List (Pm n), gens.map Pm.l = L
  | [], _ => ⟨[], rfl⟩
  | p :: r, h => by
    rw [chkAll] at h
    by_cases h1 : chkE (n : Int) p = 0
    · rw [if_pos h1] at h
      obtain ⟨q, hq⟩ := chkE_to h1
      obtain ⟨g, hg⟩ := chkAll_to h
      exact ⟨q :: g, by rw [List.map_cons, hq, hg]⟩
    · rw [if_neg h1] at h; exact absurd h h1
theorem chkAll_Pm (hn : n ≤ 20) : ∀ gens : List (Pm n), chkAll (n : Int) (gens.map Pm.l) = 0
  | [] => rfl
  | p :: r => by rw [List.map_cons, chkAll, if_pos (chkE_Pm hn p)]; exact chkAll_Pm hn r
theorem chkG_to {d : Int} {L : List (List Int)} (h : chkG d L = 0) : ∃ (n : Nat) (gens : List (Pm n)), d = (n : Int) ∧ n ≤ 20 ∧ gens.map Pm.l = L ∧ L.length ≤ 32 := by
  unfold chkG at h
  split at h
  · cases h
  · split at h
    · cases h
    · split at h
      · cases h
      · obtain ⟨k, rfl⟩ : ∃ k : Nat, d = (k : Int) := ⟨d.toNat, by omega⟩
        obtain ⟨g, hg⟩ := chkAll_to h
        exact ⟨k, g, rfl, by omega, hg, by omega⟩
theorem chkG_Pm (hn : n ≤ 20) (gens : List (Pm n)) (hl : gens.length ≤ 32) : chkG (n : Int) (gens.map Pm.l) = 0 := by
  unfold chkG
  rw [if_neg (by omega), if_neg (by omega), if_neg (by rw [List.length_map]; omega)]
  exact chkAll_Pm hn gens
theorem grp_spec (hn : n ≤ 20) (gens : List (Pm n)) : ∃ (A : AC n) (E : List (Pm n)), new_ n (gens.map Pm.l) = some A.enc ∧ Bs.Good A (Gen gens) ∧ E.Pairwise Lt ∧ (∀ p, p ∈ E ↔ Gen gens p) ∧ belowF A.enc 0 = (E.length : Int) ∧ (E.length < 100000 → elements A.enc = some (E.map Pm.l)) := by
  obtain ⟨A, h1, h2⟩ := new_spec hn gens
  obtain ⟨E, e1, e2, e3, e4⟩ := elements_spec hn h2
  exact ⟨A, E, h1, h2, e1, e2, e3, e4⟩
theorem Lt.nodup {E : List (Pm n)} (h : E.Pairwise Lt) : E.Nodup := h.imp (fun {a b} hab e => by subst e; exact Lt.irrefl a hab)
def conj (p x : Pm n) : Pm n := p⁻¹ * x * p
theorem conj_mul (p x y : Pm n) : conj p (x * y) = conj p x * conj p y := by
  unfold conj
  rw [Pm.mul_assoc (p⁻¹ * x) p, Pm.mul_assoc p⁻¹ y p, Pm.mul_inv_l, ← Pm.mul_assoc, ← Pm.mul_assoc, Pm.mul_assoc p⁻¹ x y, ← Pm.mul_assoc p⁻¹ x y]
theorem conj_one (p : Pm n) : conj p 1 = 1 := by unfold conj; rw [Pm.mul_one, Pm.inv_mul]
theorem conj_back (p x : Pm n) : conj p⁻¹ (conj p x) = x := by
  unfold conj
  rw [Pm.inv_inv, Pm.mul_assoc p⁻¹ x p, Pm.mul_inv_l, Pm.mul_inv_r]
theorem conj_forth (p x : Pm n) : conj p (conj p⁻¹ x) = x := by
  have := conj_back p⁻¹ x
  rwa [Pm.inv_inv] at this
theorem conj_inj (p : Pm n) {x y : Pm n} (h : conj p x = conj p y) : x = y := by rw [← conj_back p x, h, conj_back]
theorem gen_conj {S : List (Pm n)} (p : Pm n) {x : Pm n} (h : Gen S x) : Gen (S.map (conj p)) (conj p x) := by
  refine Gen.induct (P := fun x => Gen (S.map (conj p)) (conj p x)) ?_ (fun a s ha _ hs => ?_) h
  · rw [conj_one]; exact Gen.one _
  · show Gen _ (conj p (a * s)); rw [conj_mul]; exact Gen.mul ha (Gen.of (List.mem_map_of_mem hs))
theorem map_conj_back (p : Pm n) (S : List (Pm n)) : (S.map (conj p)).map (conj p⁻¹) = S := by
  rw [List.map_map]
  calc S.map (conj p⁻¹ ∘ conj p) = S.map id := List.map_congr_left (fun x _ => conj_back p x)
    _ = S := List.map_id _
theorem gen_conj_iff {S : List (Pm n)} (p x : Pm n) : Gen (S.map (conj p)) (conj p x) ↔ Gen S x := by
  refine ⟨fun h => ?_, gen_conj p⟩
  have := gen_conj p⁻¹ h
  rwa [map_conj_back, conj_back] at this
theorem conj_len {S : List (Pm n)} (p : Pm n) {E F : List (Pm n)} (hE : E.Pairwise Lt) (hF : F.Pairwise Lt) (e : ∀ x, x ∈ E ↔ Gen S x) (f : ∀ x, x ∈ F ↔ Gen (S.map (conj p)) x) : E.length = F.length := by
  have h1 : (E.map (conj p)).Nodup := List.Pairwise.map (conj p) (fun a b hab e => hab (conj_inj p e)) (Lt.nodup hE)
  have h2 : (E.map (conj p)).Perm F := (List.perm_ext_iff_of_nodup h1 (Lt.nodup hF)).2 fun x => by
    rw [f, List.mem_map]
    constructor
    · rintro ⟨y, hy, rfl⟩; exact gen_conj p ((e y).1 hy)
    · intro hx
      refine ⟨conj p⁻¹ x, (e _).2 ?_, conj_forth p x⟩
      rw [← gen_conj_iff p, conj_forth]; exact hx
  rw [← h2.length_eq, List.length_map]
theorem outIdx_spec {A : AC n} {G : Pm n → Prop} (hn : n ≤ 20) (h : Bs.Good A G) : ∀ (i : Nat) (gens : List (Pm n)), ∃ r : Int, outIdx A.enc i (gens.map Pm.l) = some r ∧ (r ≥ 0 ↔ ¬ ∀ g ∈ gens, G g)
  | i, [] => ⟨-1, rfl, by simp⟩
  | i, g :: r => by
    obtain ⟨b, hb, hb2⟩ := contains_spec hn h g
    rw [List.map_cons, outIdx, hb]
    by_cases e : b = true
    · obtain ⟨x, hx, hx2⟩ := outIdx_spec hn h (i + 1) r
      refine ⟨x, ?_, ?_⟩
      · show (if b = true then outIdx A.enc (i + 1) (r.map Pm.l) else some (i : Int)) = some x
        rw [if_pos e]; exact hx
      · rw [hx2]
        have h9 := hb2.1 e
        constructor
        · intro h1 h2; exact h1 (fun g' hg => h2 g' (List.mem_cons_of_mem _ hg))
        · intro h1 h2; exact h1 (fun g' hg => (List.mem_cons.1 hg).elim (fun e => e ▸ h9) (h2 g'))
    · refine ⟨(i : Int), ?_, ?_⟩
      · show (if b = true then outIdx A.enc (i + 1) (r.map Pm.l) else some (i : Int)) = some (i : Int)
        rw [if_neg e]
      · exact ⟨fun _ h2 => e (hb2.2 (h2 g List.mem_cons_self)), fun _ => by omega⟩
open Classical in
theorem sub_spec (hn : n ≤ 20) (S T : List (Pm n)) (d : Int) : permgroup_sub.f d (S.map Pm.l) (n : Int) (T.map Pm.l) = some (decide (∀ g ∈ S, Gen T g)) := by
  obtain ⟨A, _, h1, h2, _⟩ := grp_spec hn T
  obtain ⟨r, hr, hr2⟩ := outIdx_spec hn h2 0 S
  unfold permgroup_sub.f
  rw [if_pos ⟨by omega, by omega⟩, Int.toNat_natCast, h1]
  show ((outIdx A.enc 0 (S.map Pm.l)).bind fun r => some (!decide (r ≥ 0))) = _
  rw [hr]
  show some (!decide (r ≥ 0)) = _
  congr 1
  by_cases e : ∀ g ∈ S, Gen T g
  · rw [decide_eq_true e, decide_eq_false (fun h => hr2.1 h e)]; rfl
  · rw [decide_eq_false e, decide_eq_true (hr2.2 e)]; rfl
end Go.Proofs.Ytimlnejchieimaa.Pms
end
