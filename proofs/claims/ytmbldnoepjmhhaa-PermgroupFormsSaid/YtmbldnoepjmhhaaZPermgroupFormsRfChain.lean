/- The walk of galoisref23.Chain. -/
import Derived.Test.YtmbldnoepjmhhaaZPermgroupFormsMg0
import Derived.Deep.RegionLaw
import Derived.Test.YtmbldnoepjmhhaaZPermgroupFormsMg1
namespace Go.Proofs.Ytmbldnoepjmhhaa.Bs
set_option linter.unusedVariables false
set_option linter.unusedSimpArgs false
open Go.RowKit Go.Proofs.YtmbldnoepjmhhaaW.PrintWords Go.Proofs.YtmbldnoepjmhhaaW.PrintLast Go.Proofs.YtmbldnoepjmhhaaW.PrintMore Go.Proofs.Ytmbldnoepjmhhaa.Plain Go.Proofs.Ytmbldnoepjmhhaa.PBs Go.Proofs.Ytmbldnoepjmhhaa.PAll
theorem rc_V_row {W : World} {e base : Nat} {ok : Nat → Prop} {A : Option Addr} {c : Nat} {l : List (List Int)} (h : Kd.V (Kd.slice 3 (Kd.int .i64)) e W base ok (.slice A l.length c) l) {i : Nat} (hi : i < l.length) : ∃ ad A2 c2, A = some ad ∧ W.cell? (ad.add i) = some (.slice A2 l[i].length c2) ∧ l[i].length ≤ c2 ∧ Kd.C (Kd.int .i64) W A2 l[i].length l[i] ∧ Kd.V (Kd.int .i64) 3 W base ok (.slice A2 l[i].length c2) l[i] := by
  have e1 : PAll.rd_L1 l (i : Int) = l[i] := by
    show l.getD i [] = _
    rw [List.getD_eq_getElem?_getD, List.getElem?_eq_getElem hi]; rfl
  obtain ⟨ad, A2, c2, e1', hx, hl, hi'⟩ := PAll.at_L1 (Kd.V_reads' h).2.2 (i : Int) (by omega) (by omega)
  cases e1'
  obtain ⟨ce, hce, hMe, hcc⟩ := Kd.V_get h [] (i : Int) (by omega) (by omega)
  obtain ⟨ua, uc, rfl, ul, ge⟩ := Kd.FK_slice_open hMe
  have hv := hcc 0 _ rfl
  rw [Nat.add_zero, show ((Kd.slice 3 (Kd.int .i64))).sz = 1 from rfl, Nat.mul_one] at hv
  replace hv := Option.some.inj (hv.symm.trans hx)
  injection hv with hva_ hvn_ hvc_
  rw [hva_] at ge
  rw [hvc_] at ul
  have hV : Kd.V (Kd.int .i64) 3 W base ok (.slice A2 (PAll.rd_L1 l (i : Int)).length c2) (PAll.rd_L1 l (i : Int)) := Kd.V_mk ul ge
  rw [Int.toNat_natCast] at hx
  rw [e1] at hx hl hi' hV
  exact ⟨ad, A2, c2, rfl, hx, hl, hi', hV⟩
theorem rc_cell_move {w w' : World} {a : Addr} {v : Value} (h : w.cell? a = some v) (hb : Below w.heap.size w w') : w'.cell? a = some v := (World.cell?_of_block (w := w) (w' := w') (hb.block _ (World.block_lt_of_cell? w _ h))).trans h
theorem rc_intAt {w : World} {A : Option Addr} {l : List Int} (h : Kd.C (Kd.int .i64) w A l.length l) {j : Nat} (hj : j < l.length) : ∃ ad, A = some ad ∧ w.cell? (ad.add j) = some (.int .i64 (rd l (j : Int))) := by
  obtain ⟨ad, e, hc⟩ := Kd.at_int h (j : Int) (by omega) (by omega)
  exact ⟨ad, e, by rw [Int.toNat_natCast] at hc; exact hc⟩
set_option maxHeartbeats 16000000 in
set_option maxRecDepth 100000 in
theorem galoisref23_Chain.calls (k : Nat) (a0 : Int) (A1 : Option Addr) (c1 : Nat) (l1 : List (List Int)) (r : List S71) (w : World) (hr1 : Kd.C (Kd.slice 3 (Kd.int .i64)) w A1 l1.length l1) (hc1 : l1.length ≤ c1) (h : galoisref23_Chain.f k a0 l1 = some r) :
    Calls Try.prog 40 #[.int .i64 a0, .slice A1 l1.length c1] w fun e w' => ∃ A c, e = .returned (.slice A r.length c) ∧ r.length ≤ c ∧ Kd.C k71 w' A r.length r ∧ Below w.heap.size w w' := by
  have hul := Try.underlying71
  unfold galoisref23_Chain.f at h
  have hr : 0 ≤ a0 ∧ a0 ≤ 20 := by
    by_cases hr : 0 ≤ a0 ∧ a0 ≤ 20
    · exact hr
    · rw [if_neg hr] at h; cases h
  rw [if_pos hr] at h
  obtain ⟨n, rfl⟩ : ∃ n : Nat, a0 = (n : Int) := ⟨a0.toNat, by omega⟩
  rw [Int.toNat_natCast] at h
  have HN : Aside0 (n ≤ 20) := ⟨by omega⟩
  have H : Aside0 (chOut k n ((List.range n).drop 0) l1 [] = some r) := ⟨h⟩
  have HA0 : Aside0 (RoAt w w (.slice A1 l1.length c1) (.slice none 0 0) l1 []) := ⟨⟨Below.refl _ _, Kd.V_mono (Kd.V_mk hc1 (Kd.C_F (Kd.heap_slice 3 (Kd.heap_int .i64)) hr1)) (fun k _ e => by cases e), Kd.N_nil _ _ _ _ _⟩⟩
  clear h hr hr1 hc1
  go_enter Try.func40, Try.ntmps40
  go_wp2
  go_loopg [1, 5, 6] n (fun kq v1 v5 v6 w' => ∃ (b : Nat) (all : List (List Int)) (out : List S71) (va vt : Value), va = v1 ∧ vt = v5 ∧ v6 = .int .i64 (b : Int) ∧ Aside0 (RoAt w w' va vt all out) ∧ Aside0 (chOut k n ((List.range n).drop b) all out = some r) ∧ Aside0 (b + kq = n))
  case atStart => exact ⟨0, l1, [], _, _, rfl, rfl, (by first | rfl | (simp; done)), HA0, H, ⟨by omega⟩⟩
  case round =>
    clear H HA0
    obtain ⟨b, all, out, va, vt, rfl, rfl, rfl, HO, HA, HM⟩ := hrel
    have h := HA.out
    clear HA
    obtain ⟨At, ct, rfl⟩ := Kd.N_slice HO.out.rt
    obtain ⟨Aa, ca, rfl⟩ := Kd.V_slice HO.out.ra
    cases gk with
    | zero =>
      have hj : (b < n) = False := eq_false (by have := HM.out; omega)
      have hj2 : ((b : Int) < (n : Int)) = False := eq_false (by have := HM.out; omega)
      rw [List.drop_eq_nil_of_le (by rw [List.length_range]; have := HM.out; omega)] at h
      obtain rfl := Option.some.inj h
      clear h
      go_wp2
      go_ret
      exact ⟨_, _, rfl, (Kd.N_reads' HO.out.rt).2.1, (Kd.N_reads' HO.out.rt).2.2, HO.out.bel⟩
    | succ q1_ =>
      have hbn : b < n := by have := HM.out; omega
      have hj : (b < n) = True := eq_true hbn
      have hj2 : ((b : Int) < (n : Int)) = True := eq_true (by omega)
      have hb0 : (0 ≤ (b : Int)) = True := eq_true (by omega)
      have wb : wrap64 ((b : Int) + 1) = ((b + 1 : Nat) : Int) := (IntWalk.wrap64_in _ ⟨by omega, by have := HN.out; omega⟩).trans (by omega)
      rw [List.drop_eq_getElem_cons (by rw [List.length_range]; exact hbn), List.getElem_range, chOut] at h
      have hg : (∀ p ∈ all, b < p.length) ∧ all.length ≤ 100000 ∧ out.length < 1000 := by
        by_cases hg : (∀ p ∈ all, b < p.length) ∧ all.length ≤ 100000 ∧ out.length < 1000
        · exact hg
        · rw [if_neg hg] at h; cases h
      rw [if_pos hg] at h
      replace h := Option.bind_eq_some_iff.1 h
      obtain ⟨⟨o, ws⟩, ho, h⟩ := h
      replace h := Option.bind_eq_some_iff.1 h
      obtain ⟨all', hf, h⟩ := h
      have HG := Aside0.mk hg
      have HF := Aside0.mk hf
      have HNX := Aside0.mk h
      have HMID : Aside0 (chMid (b : Int) all ((List.range n).drop 0) [] [] = some (o, ws)) := ⟨ho⟩
      have HW := Aside0.mk wb
      obtain ⟨wo, hwo⟩ : ∃ wo : World, wo = wr := ⟨_, rfl⟩
      subst hwo
      clear h ho hf hg wb hbn
      go_upto_region 5 with fail
      go_cut [7] (fun v7 wx => ∃ (xb : Nat), v7 = .pointer (some ⟨xb, 0, none⟩) ∧ Aside0 (RcAt wo (fun b => some b ≠ (Value.slice At out.length ct).ownBlock) (fun _ => False) xb (b : Int) (.slice none 0 0) (.slice none 0 0) [] [] wx))
      case first =>
        go_wp2
        go_meet
        first
        | exact ⟨_, rfl, ⟨RcAt.start _ _ _⟩⟩
        | (refine ⟨_, rfl, ⟨?_⟩⟩; have := RcAt.start wo (fun b => some b ≠ (Value.slice At out.length ct).ownBlock) (b : Int); simpa using this)
      case rest =>
        obtain ⟨xb, rfl, HX0⟩ := hcut
        go_wp2
        go_loopg [8] n (fun kq v8 w' => ∃ (q : Nat) (o2 : List Int) (ws2 : List (List Int)) (vo vw : Value) (Q : Nat → Prop), v8 = .int .i64 (q : Int) ∧ Aside0 (RcAt wo (fun b => some b ≠ (Value.slice At out.length ct).ownBlock) Q xb (b : Int) vo vw o2 ws2 w') ∧ Aside0 (chMid (b : Int) all ((List.range n).drop q) o2 ws2 = some (o, ws)) ∧ Aside0 (q + kq = n))
        case atStart => exact ⟨0, [], [], _, _, _, (by first | rfl | (simp; done)), HX0, HMID, ⟨by omega⟩⟩
        case round =>
          clear HX0 HMID
          obtain ⟨q, o2, ws2, vo, vw, Q, rfl, HX, HA, HQ⟩ := hrel
          have h := HA.out
          clear HA
          obtain ⟨Ao, co, rfl⟩ := Kd.R_slice HX.out.ro
          obtain ⟨Aw, cw, rfl⟩ := Kd.N_slice HX.out.rw'
          cases gk with
          | zero =>
            have hq : (q < n) = False := eq_false (by have := HQ.out; omega)
            have hq2 : ((q : Int) < (n : Int)) = False := eq_false (by have := HQ.out; omega)
            rw [List.drop_eq_nil_of_le (by rw [List.length_range]; have := HQ.out; omega), chMid] at h
            obtain ⟨rfl, rfl⟩ := Prod.mk.inj (Option.some.inj h)
            clear h
            have HO2 := Aside0.mk (HO.out.below HX.out.bel)
            have hx0 := blk_cell HX.out.bx 0
            have hx1 := blk_cell HX.out.bx 1
            have hx2 := blk_cell HX.out.bx 2
            simp only [List.getElem?_toArray, List.getElem?_cons_zero, List.getElem?_cons_succ] at hx0 hx1 hx2
            have wb := HW.out
            have HVT : Aside0 (∀ k, some k = (Value.slice At out.length ct).ownBlock → k < wo.heap.size) := ⟨fun k e => Kd.N_lt HO.out.rt k e.symm⟩
            by_cases h1 : 1 < o2.length
            · have h9 := HNX.out
              rw [if_pos h1] at h9
              have HNX := Aside0.mk h9
              clear h9
              have d1 : decide (1 < (o2.length : Int)) = true := decide_eq_true (by omega)
              have hFO : Aside0 (Kd.F (Kd.int .i64) wr (fun k => some k ≠ (Value.slice At out.length ct).ownBlock) Ao o2.length o2) := ⟨Kd.F_mono (kd_R_F HX.out.ro) (fun k hk e => by have h2 := HVT.out k e; have h3 := hk; omega)⟩
              have hFW : Aside0 (Kd.F (Kd.slice 3 (Kd.int .i64)) wr (fun k => some k ≠ (Value.slice At out.length ct).ownBlock) Aw ws2.length ws2) := ⟨Kd.F_mono (Kd.N_F HX.out.rw') (fun k hk e => by
                rcases hk with hk | hk
                · exact hk.1 e
                · have h2 := HVT.out k e; have h3 := (HX.out.q k hk).1; omega)⟩
              have HLO := Aside0.mk (Kd.R_reads' HX.out.ro).2.1
              have HLW := Aside0.mk (Kd.N_reads' HX.out.rw').2.1
              clear h1
              go_wp2_with (first
                | (go_at_call 93; (refine (PRf.galoisref23_Fixing.calls k (fun k => some k ≠ v8.ownBlock) Aa ca all (some ⟨w8.heap.size, 0, none⟩) 1 [(b : Int)] all' _ (HO3.out.use bel0) (Kd.R_reads' (rc_lit_one w8 (b : Int))).2.2 (Nat.le_refl _) HF.out).mono ?_); rintro e w9 ⟨v9, rfl, hn9, hb9⟩; have HO4 := Aside0.mk ((HO3.out.below (w' := w8.alloc (.cells #[.int .i64 (b : Int)] 3)) (below_alloc (Below.refl _ _) _)).turn hb9 hn9); clear hn9 hb9)
                | ((with_reducible refine gate_builtin (b := .append) (xs := #[.tmp 61, .tmp 63]) rfl ?_); at_builtin; refine Kd.N_append k71 (w0 := w) w.heap.size rfl (.tmp 61) (.tmp 63) 59 71 (.agg #[(.int .i64 0), (.slice none 0 0), (.slice none 0 0)]) 56 rfl Try.underlying59 PAll.info71 rfl (by decide) (by omega) (.slice At out.length ct) out ⟨(b : Int), o2, ws2⟩ [.int .i64 (b : Int), .slice Ao o2.length co, .slice Aw ws2.length cw] (fun _ => True) (fun k => some k ≠ (Value.slice At out.length ct).ownBlock) rfl ?aX ?aP ?aK ?aF ?aO ?aB ?aS ?aL ?_; (case aX => rfl); (case aP => exact k71_mkF _ _ ⟨(b : Int), o2, ws2⟩ HLO.out hFO.out HLW.out hFW.out); (case aK => exact fun k hk => ⟨trivial, hk⟩); (case aF => exact fun _ _ => trivial); (case aO => exact HO2.out.rt); (case aB => exact HO2.out.bel); (case aS => exact HO2.out.bel.size); (case aL => have := HG.out.2.2; omega); intro v8 w8 ho hb hg hat; have HO3 := Aside0.mk (HO2.out.push ho hg hat); clear ho hb hg hat))
              go_roundg q1_
              case measure => exact Nat.lt_succ_self _
              case rel => exact ⟨b + 1, _, _, _, _, rfl, rfl, (by first | (rw [wb]; done) | rfl), HO4, HNX, ⟨by have := HM.out; omega⟩⟩
            · have h9 := HNX.out
              rw [if_neg h1] at h9
              have HNX := Aside0.mk h9
              clear h9
              have d1 : decide (1 < (o2.length : Int)) = false := decide_eq_false (by omega)
              clear h1
              go_wp2_with (go_at_call 93; (refine (PRf.galoisref23_Fixing.calls k (fun k => some k ≠ (Value.slice At out.length ct).ownBlock) Aa ca all (some ⟨wr.heap.size, 0, none⟩) 1 [(b : Int)] all' _ (HO2.out.use bel0) (Kd.R_reads' (rc_lit_one wr (b : Int))).2.2 (Nat.le_refl _) HF.out).mono ?_); rintro e w9 ⟨v9, rfl, hn9, hb9⟩; have HO4 := Aside0.mk ((HO2.out.below (w' := wr.alloc (.cells #[.int .i64 (b : Int)] 3)) (below_alloc (Below.refl _ _) _)).turn hb9 hn9); clear hn9 hb9)
              go_roundg q1_
              case measure => exact Nat.lt_succ_self _
              case rel => exact ⟨b + 1, _, _, _, _, rfl, rfl, (by first | (rw [wb]; done) | rfl), HO4, HNX, ⟨by have := HM.out; omega⟩⟩
          | succ m1 =>
            have hqn : q < n := by have := HQ.out; omega
            have hq : (q < n) = True := eq_true hqn
            have hq2 : ((q : Int) < (n : Int)) = True := eq_true (by omega)
            have wq : wrap64 ((q : Int) + 1) = ((q + 1 : Nat) : Int) := (IntWalk.wrap64_in _ ⟨by omega, by have := HN.out; omega⟩).trans (by omega)
            rw [List.drop_eq_getElem_cons (by rw [List.length_range]; exact hqn), List.getElem_range, chMid] at h
            replace h := Option.bind_eq_some_iff.1 h
            obtain ⟨⟨o3, ws3⟩, h1, h⟩ := h
            have HIN : Aside0 (chIn (b : Int) (q : Int) (all.drop 0) false o2 ws2 = some (o3, ws3)) := ⟨h1⟩
            have HNX2 := Aside0.mk h
            have WQ := Aside0.mk wq
            clear h h1 hqn wq
            go_wp2
            go_loopg [9, 10] all.length (fun kq v9 v10 w' => ∃ (i : Nat) (d : Bool) (o4 : List Int) (ws4 : List (List Int)) (vo vw : Value) (Q : Nat → Prop), v9 = .bool d ∧ v10 = .int .i64 (i : Int) ∧ Aside0 (RcAt wo (fun b => some b ≠ (Value.slice At out.length ct).ownBlock) Q xb (b : Int) vo vw o4 ws4 w') ∧ Aside0 (chIn (b : Int) (q : Int) (all.drop i) d o4 ws4 = some (o3, ws3)) ∧ Aside0 (i + kq = all.length))
            case atStart => exact ⟨0, false, o2, ws2, _, _, _, rfl, (by first | rfl | (simp; done)), HX, HIN, ⟨by omega⟩⟩
            case round =>
              clear HX HIN
              obtain ⟨i, d, o4, ws4, vo, vw, Q, rfl, rfl, HX, HA, HI⟩ := hrel
              have h := HA.out
              clear HA
              obtain ⟨Ao, co, rfl⟩ := Kd.R_slice HX.out.ro
              obtain ⟨Aw, cw, rfl⟩ := Kd.N_slice HX.out.rw'
              cases gk with
              | zero =>
                have hi : (i < all.length) = False := eq_false (by have := HI.out; omega)
                have hi2 : ((i : Int) < (all.length : Int)) = False := eq_false (by have := HI.out; omega)
                rw [List.drop_eq_nil_of_le (by have := HI.out; omega), chIn] at h
                obtain ⟨rfl, rfl⟩ := Prod.mk.inj (Option.some.inj h)
                clear h
                have wq := WQ.out
                go_wp2
                go_roundg m1
                case measure => exact Nat.lt_succ_self _
                case rel => exact ⟨q + 1, _, _, _, _, _, (by first | (rw [wq]; done) | rfl), HX, HNX2, ⟨by have := HQ.out; omega⟩⟩
              | succ m2 =>
                have hil : i < all.length := by have := HI.out; omega
                have hi : (i < all.length) = True := eq_true hil
                have hi2 : ((i : Int) < (all.length : Int)) = True := eq_true (by omega)
                have hi0 : (0 ≤ (i : Int)) = True := eq_true (by omega)
                have wi : wrap64 ((i : Int) + 1) = ((i + 1 : Nat) : Int) := (IntWalk.wrap64_in _ ⟨by omega, by have := HG.out.2.1; omega⟩).trans (by omega)
                rw [List.drop_eq_getElem_cons hil, chIn] at h
                obtain ⟨ad, A2, c2, rfl, hcell0, hle2, hC2, hV2⟩ := rc_V_row (Kd.V_bound HO.out.ra) hil
                have hbl : b < all[i].length := HG.out.1 _ (List.getElem_mem hil)
                obtain ⟨p, hp⟩ : ∃ p, all[i] = p := ⟨_, rfl⟩
                rw [hp] at h hcell0 hle2 hC2 hV2 hbl
                have hcell := rc_cell_move hcell0 HX.out.bel
                obtain ⟨ad2, rfl, hpc0⟩ := rc_intAt hC2 hbl
                have hpc := rc_cell_move hpc0 HX.out.bel
                have hbp : (b < p.length) = True := eq_true hbl
                have hbp2 : ((b : Int) < (p.length : Int)) = True := eq_true (by omega)
                obtain ⟨y, hy⟩ : ∃ y, rd p (b : Int) = y := ⟨_, rfl⟩
                rw [hy] at hpc h
                have HC0 := Aside0.mk hcell0
                have HV2 := Aside0.mk hV2
                have HLE2 := Aside0.mk hle2
                have WI := Aside0.mk wi
                have WQ2 := WQ
                clear hil hp hcell0 hC2 hpc0 hbl hV2 hle2 hy
                by_cases hcond : y = (q : Int) ∧ d = false
                · rw [if_pos hcond] at h
                  have hsm : o4.length < 1000 ∧ ws4.length < 1000 := by
                    by_cases hsm : o4.length < 1000 ∧ ws4.length < 1000
                    · exact hsm
                    · rw [if_neg hsm] at h; cases h
                  rw [if_pos hsm] at h
                  have HSM := Aside0.mk hsm
                  have HNX3 := Aside0.mk h
                  obtain ⟨rfl, rfl⟩ := hcond
                  clear h hsm
                  have hyq : ((q : Int) == (q : Int)) = true := beq_self_eq_true _
                  have hx0 := blk_cell HX.out.bx 0
                  have hx1 := blk_cell HX.out.bx 1
                  have hx2 := blk_cell HX.out.bx 2
                  have hf1 := blk_frozen HX.out.bx 1
                  have hf2 := blk_frozen HX.out.bx 2
                  simp only [List.getElem?_toArray, List.getElem?_cons_zero, List.getElem?_cons_succ] at hx0 hx1 hx2
                  go_upto_region 14 with fail
                  go_cut [] (fun wx => ∃ (v8 : Value), Aside0 (RcAt wo (fun b => some b ≠ (Value.slice At out.length ct).ownBlock) Q xb (b : Int) v8 (.slice Aw ws4.length cw) (o4 ++ [(q : Int)]) ws4 wx))
                  case first =>
                    go_wp2_with ((with_reducible refine gate_builtin (b := .append) (xs := #[.tmp 43, .tmp 45]) rfl ?_); at_builtin; refine Kd.R_append (Kd.int .i64) (w0 := wo) wo.heap.size rfl (.tmp 43) (.tmp 45) 25 3 (.int .i64 0) 8 rfl Try.underlying25 PAll.info3 rfl (by decide) (by omega) (.slice Ao o4.length co) o4 (q : Int) [.int .i64 (q : Int)] (fun _ => True) (fun _ => False) rfl ?aX ?aP (fun _ hk => hk.elim) ?aF ?aO ?aB ?aS ?aL ?_; (case aX => rfl); (case aP => rfl); (case aF => exact fun _ _ => trivial); (case aO => exact HX.out.ro); (case aB => exact HX.out.bel); (case aS => exact HX.out.bel.size); (case aL => have := HSM.out; omega); intro v8 w8 ho hb hg hat; obtain ⟨A8, c8, e8⟩ := Kd.R_slice ho; subst e8; have el : (o4 ++ [(q : Int)]).length = o4.length + 1 := (by simp); have hXX := HX.out.orb ho hg hat; rw [el] at hXX ho ⊢; have hy1 := blk_cell hXX.1 1; have hz1 := blk_frozen hXX.1 1; simp only [List.getElem?_toArray, List.getElem?_cons_zero, List.getElem?_cons_succ] at hy1; have HXX := Aside0.mk hXX.2; clear ho hb hg hat el hXX)
                    go_meet
                    exact ⟨_, HXX⟩
                  case rest =>
                    clear hx0 hx1 hx2 hf1 hf2 HX hcell
                    obtain ⟨v8, HX⟩ := hcut
                    obtain ⟨A8, c8, rfl⟩ := Kd.R_slice HX.out.ro
                    have hcell := rc_cell_move HC0.out HX.out.bel
                    have hx0 := blk_cell HX.out.bx 0
                    have hx1 := blk_cell HX.out.bx 1
                    have hx2 := blk_cell HX.out.bx 2
                    have hf1 := blk_frozen HX.out.bx 1
                    have hf2 := blk_frozen HX.out.bx 2
                    simp only [List.getElem?_toArray, List.getElem?_cons_zero, List.getElem?_cons_succ] at hx0 hx1 hx2
                    go_wp2
                    have hxb : xb < wc.heap.size := blk_lt HX.out.bx
                    have HL1 := Aside0.mk (rc_lit_perm (W := wc) HLE2.out (Kd.V_F (Kd.V_step HV2.out (fun k hk hlt => HX.out.bel.block k hk.2))) (fun k hk => Nat.lt_of_lt_of_le hk.2 HX.out.bel.size))
                    go_region_law? (first
                      | (refine Kd.N_append_rows_step (Kd.slice 3 (Kd.int .i64)) (w0 := wo) wo.heap.size (by rfl) (.tmp 49) (.tmp 54) 35 49 (.slice none 0 0) 24 rfl Try.underlying35 PAll.info49 rfl (by decide) (by omega) (.slice Aw ws4.length cw) ws4 [p] (some ⟨wc.heap.size, 0, none⟩) 1 1 (fun k => ((some k ≠ (Value.slice At out.length ct).ownBlock ∧ k < wo.heap.size) ∨ Q k) ∨ wc.heap.size ≤ k) (fun k => (some k ≠ (Value.slice At out.length ct).ownBlock ∧ k < wo.heap.size) ∨ k = wc.heap.size) ?hs ?hx ?hO ?hR ?hokp ?hf ?hB ?hb ?hl ?_; (case hs => exact rfl); (case hx => exact rfl); (case hR => exact Kd.N_F (Kd.N_below HL1.out (below_drew (Below.refl _ _)))); (case hokp => exact fun k hk => ⟨by rcases hk with hk | hk; exact .inl (.inl hk); exact .inr (Nat.le_of_eq hk.symm), fun e => by rcases hk with hk | hk; (have := Kd.N_base HX.out.rw' k e.symm; have := hk.2; omega); (have := Kd.N_lt HX.out.rw' k e.symm; omega)⟩); (case hf => exact fun k hk => .inr (Nat.le_trans (Below.size bel0) hk)); (case hO => exact Kd.N_mono (HX.out.below bel0).rw' (fun k hk => .inl hk)); (case hB => exact (HX.out.below bel0).bel); (case hb => exact (HX.out.below bel0).bel.size); (case hl => have := HSM.out; omega); intro v9 w9 ho hb hg hat; obtain ⟨A9, c9, e9⟩ := Kd.N_slice ho; subst e9; have el : (ws4 ++ [p]).length = ws4.length + 1 := (by simp); have hXX := HX.out.wrd bel0 ho hg; rw [el] at hXX ho ⊢; have hy2 := blk_cell hXX.1 2; have hz2 := blk_frozen hXX.1 2; simp only [List.getElem?_toArray, List.getElem?_cons_zero, List.getElem?_cons_succ] at hy2; have HXX := Aside0.mk hXX.2; clear ho hb hg hat el hXX))
                    all_goals
                      go_wp2
                      go_roundg m2
                      case measure => exact Nat.lt_succ_self _
                      case rel => exact ⟨i + 1, true, _, _, _, _, _, rfl, (by first | (rw [WI.out]; done) | rfl), HXX, HNX3, ⟨by have := HI.out; omega⟩⟩
                · rw [if_neg hcond] at h
                  have HNX3 := Aside0.mk h
                  have hd : d = true ∨ (y == (q : Int)) = false := by
                    cases d with
                    | true => exact .inl rfl
                    | false => exact .inr (beq_eq_false_iff_ne.mpr (fun e => hcond ⟨e, rfl⟩))
                  clear h hcond
                  rcases hd with rfl | hd
                  · cases eyq : (y == (q : Int))
                    all_goals
                      go_wp2
                      go_roundg m2
                      case measure => exact Nat.lt_succ_self _
                      case rel => exact ⟨i + 1, true, _, _, _, _, _, rfl, (by first | (rw [wi]; done) | rfl), HX, HNX3, ⟨by have := HI.out; omega⟩⟩
                  · go_wp2
                    go_roundg m2
                    case measure => exact Nat.lt_succ_self _
                    case rel => exact ⟨i + 1, d, _, _, _, _, _, rfl, (by first | (rw [wi]; done) | rfl), HX, HNX3, ⟨by have := HI.out; omega⟩⟩
end Go.Proofs.Ytmbldnoepjmhhaa.Bs
