/- The walk of PermgroupChains, ending 1. -/
import Derived.Test.YtmbldnoepjmhhaaZPermgroupChainsMg5
namespace Go.Proofs.Ytmbldnoepjmhhaa.Bs
set_option linter.unusedVariables false
set_option linter.unusedSimpArgs false
open Go.RowKit Go.Proofs.YtmbldnoepjmhhaaW.PrintWords Go.Proofs.YtmbldnoepjmhhaaW.PrintLast Go.Proofs.YtmbldnoepjmhhaaW.PrintMore Go.Proofs.Ytmbldnoepjmhhaa.Plain Go.Proofs.Ytmbldnoepjmhhaa.PBs Go.Proofs.Ytmbldnoepjmhhaa.PAll
set_option maxHeartbeats 16000000 in
set_option maxRecDepth 100000 in
theorem chains_all1 (n : Nat) (A0_1 : Option Addr) (c0_1 : Nat) (L : List (List Int)) (A1 : Option Addr) (c1 : Nat) (lw : List Int) (A2 : Option Addr) (c2 : Nat) (lp : List Int) (w : World) (hr0_1 : Kd.C (Kd.slice 3 (Kd.int .i64)) w A0_1 L.length L) (hc0_1 : L.length ≤ c0_1) (hr1 : Kd.C (Kd.int .u8) w A1 lw.length lw) (hc1 : lw.length ≤ c1) (hr2 : Kd.C (Kd.int .i64) w A2 lp.length lp) (hc2 : lp.length ≤ c2) (hn : n ≤ 12) (hL : L.length ≤ 6) (hlw : lw.length ≤ 40) (hlp : lp.length ≤ 40) (K1 K2 K3 K4 : Nat) (cl : List S71) (N : Int)
    (h1 : PRf.galoisref23_Few.f K1 (n : Int) L = some true) (h2 : PRf.galoisref23_Check.f K2 (n : Int) L = some 0) (h3 : permgroup_Chain.f K3 (n : Int) L = some (cl, 0)) (h4 : permgroup_Order.f K4 (n : Int) L = some (N, 0)) (hN : 1 ≤ N)
    (ordAt lastAt : Nat → Int) (ho0 : ordAt 0 = 1) (hl0 : lastAt 0 = -1) (hcl : cl.length ≤ 1000)
    (hlev : ∀ (i : Nat) (q : S71), cl[i]? = some q → lastAt i < q.f0 ∧ lastAt (i + 1) = q.f0 ∧ 2 ≤ q.f1.length ∧ q.f1.length ≤ 1000 ∧ q.f2.length = q.f1.length ∧ wrap64 (ordAt i * (q.f1.length : Int)) = ordAt (i + 1) ∧ ∃ pt : Nat, q.f0 = (pt : Int) ∧ ∀ k, k < q.f1.length → LiftF n pt L q.f1 q.f2 k)
    (hoN : ordAt cl.length = N) (prodAt : Nat → List Int) (K5 : Nat) (h5 : PRf.galoisref22_Identity.f K5 (n : Int) = some (prodAt 0))
    (hwb : ∀ b ∈ lw, b ≤ 255) (hprod : ∀ (i : Nat) (b : Int), lw[i]? = some b → 0 < L.length → 0 ≤ b ∧ ∃ (j : Nat) (x : List Int) (K : Nat), b.tmod (L.length : Int) = (j : Int) ∧ L[j]? = some x ∧ PRf.galoisref22_Mul.f K (prodAt i) x = some (prodAt (i + 1)))
    (K6 : Nat) (h6 : permgroup_Contains.f K6 (n : Int) L (prodAt (if 0 < L.length then lw.length else 0)) = some (true, 0))
    (K7 : Nat) (cp : Int) (h7 : PRf.galoisref22_Check.f K7 lp = some cp) (hend : cp ≠ 0) : Calls Try.prog 6 #[.agg #[.int .i64 (n : Int), .slice A0_1 L.length c0_1], .slice A1 lw.length c1, .slice A2 lp.length c2] w fun e w' => e = .returned (.bool true) ∧ Below w.heap.size w w' := by
  have H1 := Aside0.mk h1
  have H2 := Aside0.mk h2
  have H3 := Aside0.mk h3
  have H4 := Aside0.mk h4
  have H5 := Aside0.mk h5
  have H6 := Aside0.mk h6
  have H7 := Aside0.mk h7
  have d1i : decide (12 < (n : Int)) = false := decide_eq_false (by omega)
  have d1n : decide (12 < n) = false := decide_eq_false (by omega)
  have d2i : decide (6 < (L.length : Int)) = false := decide_eq_false (by omega)
  have d2n : decide (6 < L.length) = false := decide_eq_false (by omega)
  have d3i : decide (40 < (lw.length : Int)) = false := decide_eq_false (by omega)
  have d3n : decide (40 < lw.length) = false := decide_eq_false (by omega)
  have d4i : decide (40 < (lp.length : Int)) = false := decide_eq_false (by omega)
  have d4n : decide (40 < lp.length) = false := decide_eq_false (by omega)
  have HLEV := Aside0.mk hlev
  have HPROD := Aside0.mk hprod
  have HWB := Aside0.mk hwb
  have HEND := Aside0.mk hend
  have HON := Aside0.mk hoN
  have HO0 := Aside0.mk ho0
  have HL0 := Aside0.mk hl0
  have HCLN := Aside0.mk hcl
  have HNN := Aside0.mk hN
  have HLLN := Aside0.mk hL
  have HLWN := Aside0.mk hlw
  clear h1 h2 h3 h4 h5 h6 h7 hn hL hlw hlp hlev hprod hwb hend hoN ho0 hl0 hcl hN
  have hu := Try.underlying37
  have HB : Aside0 (Below (w.alloc (.cells #[.int .i64 (n : Int), .slice A0_1 L.length c0_1] 37)).heap.size (w.alloc (.cells #[.int .i64 (n : Int), .slice A0_1 L.length c0_1] 37)) (w.alloc (.cells #[.int .i64 (n : Int), .slice A0_1 L.length c0_1] 37))) := ⟨Below.refl _ _⟩
  have HC := Aside0.mk hc0_1
  have HC2 := Aside0.mk hc2
  have HBW : Aside0 (Below w.heap.size w (w.alloc (.cells #[.int .i64 (n : Int), .slice A0_1 L.length c0_1] 37))) := ⟨below_alloc (Below.refl _ _) _⟩
  have HG := Aside0.mk (Kd.C_below hr0_1 HBW.out)
  have HWD := Aside0.mk (Kd.C_below hr1 HBW.out)
  have HPP := Aside0.mk (Kd.C_below hr2 HBW.out)
  have hx0 : (w.alloc (.cells #[.int .i64 (n : Int), .slice A0_1 L.length c0_1] 37)).cell? ⟨w.heap.size, 0, none⟩ = some (.int .i64 (n : Int)) := by rw [World.cell?_alloc_at _ _ _ _ rfl]; rfl
  have hx1 : (w.alloc (.cells #[.int .i64 (n : Int), .slice A0_1 L.length c0_1] 37)).cell? ⟨w.heap.size, 1, none⟩ = some (.slice A0_1 L.length c0_1) := by rw [World.cell?_alloc_at _ _ _ _ rfl]; rfl
  clear hr0_1 hc0_1 hr1 hc1 hr2 hc2
  go_enter Try.func6, Try.ntmps6
  go_wp2_with (first
    | (go_at_call 29; have hq_ : w4 = w4 := rfl; clear hq_; (refine (permgroup_Order.calls K4 (n : Int) A0_1 c0_1 L N 0 _ (Kd.C_below HG.out (by repeat (first | (with_reducible first | exact Below.refl _ _ | apply below_alloc | apply pw_below_drewN | apply below_drew1) | exact Below.refl _ _))) HC.out H4.out).mono ?_); rintro e w5 ⟨rfl, hb5⟩; have hw5 := below_step (w := w4) (by repeat (first | (with_reducible first | exact Below.refl _ _ | apply below_alloc | apply pw_below_drewN | apply below_drew1) | exact Below.refl _ _)) hb5; replace HB := Aside0.mk (below_step HB.out hw5); replace HG := Aside0.mk (Kd.C_below HG.out hw5); replace hx0 := cell_move hx0 (fun hlt => hw5.block _ hlt); replace hx1 := cell_move hx1 (fun hlt => hw5.block _ hlt); replace HR4 := Aside0.mk (Kd.R_below HR4.out hw5); clear hb5 hw5)
    | (go_at_call 32; have hq_ : w3 = w3 := rfl; clear hq_; (refine (permgroup_Chain.calls K3 (n : Int) A0_1 c0_1 L cl 0 _ (Kd.C_below HG.out (by repeat (first | (with_reducible first | exact Below.refl _ _ | apply below_alloc | apply pw_below_drewN | apply below_drew1) | exact Below.refl _ _))) HC.out H3.out).mono ?_); rintro e w4 ⟨v4, rfl, hr4, hb4⟩; have hw4 := below_step (w := w3) (by repeat (first | (with_reducible first | exact Below.refl _ _ | apply below_alloc | apply pw_below_drewN | apply below_drew1) | exact Below.refl _ _)) hb4; replace HB := Aside0.mk (below_step HB.out hw4); replace HG := Aside0.mk (Kd.C_below HG.out hw4); replace hx0 := cell_move hx0 (fun hlt => hw4.block _ hlt); replace hx1 := cell_move hx1 (fun hlt => hw4.block _ hlt); obtain ⟨A7, c7, e7⟩ := Kd.R_slice hr4; subst e7; have HR4 := Aside0.mk hr4; clear hr4; clear hb4 hw4)
    | (go_at_call 28; have hq_ : w2 = w2 := rfl; clear hq_; (refine (PRf.galoisref23_Check.calls K2 (n : Int) A0_1 c0_1 L 0 _ (Kd.C_below HG.out (by repeat (first | (with_reducible first | exact Below.refl _ _ | apply below_alloc | apply pw_below_drewN | apply below_drew1) | exact Below.refl _ _))) HC.out H2.out).mono ?_); rintro e w3 ⟨rfl, hb3⟩; have hw3 := below_step (w := w2) (by repeat (first | (with_reducible first | exact Below.refl _ _ | apply below_alloc | apply pw_below_drewN | apply below_drew1) | exact Below.refl _ _)) hb3; replace HB := Aside0.mk (below_step HB.out hw3); replace HG := Aside0.mk (Kd.C_below HG.out hw3); replace hx0 := cell_move hx0 (fun hlt => hw3.block _ hlt); replace hx1 := cell_move hx1 (fun hlt => hw3.block _ hlt); clear hb3 hw3)
    | (go_at_call 41; have hq_ : w1 = w1 := rfl; clear hq_; (refine (PRf.galoisref23_Few.calls K1 (n : Int) A0_1 c0_1 L true _ (Kd.C_below HG.out (by repeat (first | (with_reducible first | exact Below.refl _ _ | apply below_alloc | apply pw_below_drewN | apply below_drew1) | exact Below.refl _ _))) HC.out H1.out).mono ?_); rintro e w2 ⟨rfl, hb2⟩; have hw2 := below_step (w := w1) (by repeat (first | (with_reducible first | exact Below.refl _ _ | apply below_alloc | apply pw_below_drewN | apply below_drew1) | exact Below.refl _ _)) hb2; replace HB := Aside0.mk (below_step HB.out hw2); replace HG := Aside0.mk (Kd.C_below HG.out hw2); replace hx0 := cell_move hx0 (fun hlt => hw2.block _ hlt); replace hx1 := cell_move hx1 (fun hlt => hw2.block _ hlt); clear hb2 hw2)
    | (go_at_call 26; (refine (galoislaw23_awake.calls true _ rfl).mono ?_); rintro e w1 ⟨rfl, hb1⟩; have hw1 := below_step (w := (w.alloc (.cells #[.int .i64 (n : Int), .slice A0_1 L.length c0_1] 37))) (by repeat (first | (with_reducible first | exact Below.refl _ _ | apply below_alloc | apply pw_below_drewN | apply below_drew1) | exact Below.refl _ _)) hb1; replace HB := Aside0.mk (below_step HB.out hw1); replace HG := Aside0.mk (Kd.C_below HG.out hw1); replace hx0 := cell_move hx0 (fun hlt => hw1.block _ hlt); replace hx1 := cell_move hx1 (fun hlt => hw1.block _ hlt); clear hb1 hw1))
  have HR5 := Aside0.mk (Kd.R_reads' HR4.out).2.2
  have HB5W := HB
  obtain ⟨y0, hy0⟩ : ∃ y0 : Int, y0 = ordAt 0 := ⟨_, rfl⟩
  go_loopg [11, 12, 13] cl.length (fun kq v11 v12 v13 w' => ∃ (i : Nat), v11 = .int .i64 (ordAt i) ∧ v12 = .int .i64 (lastAt i) ∧ v13 = .int .i64 (i : Int) ∧ Aside0 (Below w5.heap.size w5 w') ∧ Aside0 (i + kq = cl.length))
  case atStart => exact ⟨0, (by rw [HO0.out]), (by rw [HL0.out]), (by first | rfl | (simp; done)), ⟨Below.refl _ _⟩, ⟨by omega⟩⟩
  case round =>
    clear hy0
    obtain ⟨i, rfl, rfl, rfl, HBI, HI⟩ := hrel
    have hz0 := cell_move (w' := wr) hx0 (fun hlt => HBI.out.block _ hlt)
    have hz1 := cell_move (w' := wr) hx1 (fun hlt => HBI.out.block _ hlt)
    cases gk with
    | zero =>
      have hj : (i < cl.length) = False := eq_false (by have := HI.out; omega)
      have hj2 : ((i : Int) < (cl.length : Int)) = False := eq_false (by have := HI.out; omega)
      obtain rfl : i = cl.length := by have := HI.out; omega
      rw [HON.out]
      go_wp2_with (go_at_call 25; (refine (PRf.galoisref22_Identity.calls K5 (n : Int) (prodAt 0) _ H5.out).mono ?_); rintro e w6 ⟨v6, rfl, hr6, hb6⟩; have HB6 := Aside0.mk (below_step HBI.out hb6); have HP6 := Aside0.mk (PermAt.of_R hr6); have hz0_ := cell_move hz0 (fun hlt => hb6.block _ hlt); have hz1_ := cell_move hz1 (fun hlt => hb6.block _ hlt); clear hr6 hb6)
      go_loopg [15, 16] lw.length (fun kq v15 v16 w' => ∃ (i : Nat) (va : Value), va = v15 ∧ v16 = .int .i64 (i : Int) ∧ Aside0 (PermAt w' va (prodAt i)) ∧ Aside0 (Below w5.heap.size w5 w') ∧ Aside0 (i + kq = lw.length ∧ (L.length = 0 → i = 0)))
      case atStart => exact ⟨0, _, rfl, (by first | rfl | (simp; done)), HP6, HB6, ⟨by omega, fun _ => rfl⟩⟩
      case round =>
        clear HP6 HB6 hz0 hz1 hz0_ hz1_ HBI HI
        obtain ⟨i, va, rfl, rfl, HPA, HBI, HI⟩ := hrel
        have hz0 := cell_move (w' := wr) hx0 (fun hlt => HBI.out.block _ hlt)
        have hz1 := cell_move (w' := wr) hx1 (fun hlt => HBI.out.block _ hlt)
        obtain ⟨A15, c15, e15, hle15, hC15⟩ := HPA.out
        subst e15
        by_cases hgo : i < lw.length ∧ 0 < L.length
        · obtain ⟨m1, rfl⟩ : ∃ m1, gk = m1 + 1 := ⟨gk - 1, by have := HI.out; omega⟩
          obtain ⟨b, hb⟩ : ∃ b, lw[i]? = some b := ⟨_, List.getElem?_eq_getElem hgo.1⟩
          obtain ⟨hb0, j, x, K, hbj, hx, hmul⟩ := HPROD.out i b hb hgo.2
          obtain ⟨hil, hbe⟩ := List.getElem?_eq_some_iff.1 hb
          obtain ⟨hjl, hxe⟩ := List.getElem?_eq_some_iff.1 hx
          obtain ⟨bw, ebw, hbc⟩ := Kd.at_int (Kd.C_below HWD.out HB5W.out) (i : Int) (by omega) (by omega)
          rw [rd_get _ _ hil, hbe, Int.toNat_natCast] at hbc
          subst ebw
          obtain ⟨ad, gv, eA, hcell0, hga⟩ := row_at HG.out hx
          subst eA
          obtain ⟨a3, ca3, e3, hle3, hC3⟩ := hga
          rw [e3] at hcell0
          have hcell := cell_move2 (w' := wr) hcell0 HBI.out
          have hbcell := cell_move2 (w' := wr) hbc HBI.out
          have HPX := Aside0.mk (Kd.C_below hC3 HBI.out)
          have HLX := Aside0.mk hle3
          have HMUL := Aside0.mk hmul
          have HC15 := Aside0.mk hC15
          have HL15 := Aside0.mk hle15
          have i1 : (i < lw.length) = True := eq_true hil
          have i2 : ((i : Int) < (lw.length : Int)) = True := eq_true (by omega)
          have i3 : (0 ≤ (i : Int)) = True := eq_true (by omega)
          have i4 : (0 < L.length) = True := eq_true hgo.2
          have i5 : (0 < (L.length : Int)) = True := eq_true (by omega)
          have i6 : (j < L.length) = True := eq_true hjl
          have i7 : ((j : Int) < (L.length : Int)) = True := eq_true (by omega)
          have i8 : (0 ≤ (j : Int)) = True := eq_true (by omega)
          have i9 : (L.length = 0) = False := eq_false (by omega)
          have i10 : ((L.length : Int) = 0) = False := eq_false (by omega)
          have HI2 : Aside0 (i + 1 + m1 = lw.length ∧ (L.length = 0 → i + 1 = 0)) := ⟨(by have := HI.out.1; omega), (fun h => absurd h (by omega))⟩
          have hi31 : (i : Int) + 1 ≤ 41 := by have := HLWN.out; omega
          have hi30 : 0 ≤ (i : Int) + 1 := by omega
          have hj31 : (j : Int) ≤ 6 := by have := HLLN.out; omega
          have wi : wrap64 ((i : Int) + 1) = ((i + 1 : Nat) : Int) := (IntWalk.wrap64_in _ ⟨Int.le_trans (by decide) hi30, Int.le_trans hi31 (by decide)⟩).trans rfl
          have hb8 : b ≤ 255 := HWB.out b (List.mem_of_getElem? hb)
          have wb : IntKind.i64.wrap b = b := IntWalk.i64_in _ ⟨Int.le_trans (by decide) hb0, Int.le_trans hb8 (by decide)⟩
          have wb2 : wrap64 b = b := IntWalk.wrap64_in _ ⟨Int.le_trans (by decide) hb0, Int.le_trans hb8 (by decide)⟩
          have i8' : (0 : Int) ≤ (j : Int) := of_eq_true i8
          have wj : wrap64 (j : Int) = (j : Int) := IntWalk.wrap64_in _ ⟨Int.le_trans (by decide) i8', Int.le_trans hj31 (by decide)⟩
          clear hb hb0 hx hmul hil hbe hjl hxe hbc hcell0 e3 hle3 hC3 hC15 hle15 hgo hb8 hi31 hi30 hj31 i8'
          as_aux_lemma =>
            go_wp2
            go_region_with (first | (go_at_call 43; (refine (PRf.galoisref22_Mul.calls K A15 c15 (prodAt i) a3 ca3 x (prodAt (i + 1)) _ (Kd.C_below HC15.out (by repeat (first | (with_reducible first | exact Below.refl _ _ | apply below_alloc | apply pw_below_drewN | apply below_drew1) | exact Below.refl _ _))) HL15.out (Kd.C_below HPX.out (by repeat (first | (with_reducible first | exact Below.refl _ _ | apply below_alloc | apply pw_below_drewN | apply below_drew1) | exact Below.refl _ _))) HLX.out HMUL.out).mono ?_); rintro e wm ⟨vm, rfl, hrm, hbm⟩; have HBM := Aside0.mk (below_step HBI.out (below_step (w := wr) (by repeat (first | (with_reducible first | exact Below.refl _ _ | apply below_alloc | apply pw_below_drewN | apply below_drew1) | exact Below.refl _ _)) hbm)); have HPM := Aside0.mk (PermAt.of_R hrm); clear hrm hbm))
            all_goals
              go_wp2
              go_roundg m1
              case measure => exact Nat.lt_succ_self _
              case rel => exact ⟨i + 1, _, rfl, (by first | (rw [wi]; done) | rfl), HPM, HBM, HI2⟩
        · have hie : i = (if 0 < L.length then lw.length else 0) := by
            by_cases h0 : 0 < L.length
            · rw [if_pos h0]; have := HI.out; omega
            · rw [if_neg h0]; exact HI.out.2 (by omega)
          have HIE := Aside0.mk hie
          have H6i : Aside0 (permgroup_Contains.f K6 (n : Int) L (prodAt i) = some (true, 0)) := ⟨by rw [HIE.out]; exact H6.out⟩
          have HBT := Aside0.mk (below_step HB5W.out HBI.out)
          have HGt := Aside0.mk (Kd.C_below HG.out HBI.out)
          have HPt := Aside0.mk (Kd.C_below HPP.out HBT.out)
          have HC15 := Aside0.mk hC15
          have HL15 := Aside0.mk hle15
          by_cases hii : i < lw.length
          · have i1 : (i < lw.length) = True := eq_true hii
            have i2 : ((i : Int) < (lw.length : Int)) = True := eq_true (by omega)
            have i4 : (0 < L.length) = False := eq_false (fun h => hgo ⟨hii, h⟩)
            have i5 : (0 < (L.length : Int)) = False := eq_false (by omega)
            have i6 : decide (0 < (L.length : Int)) = false := decide_eq_false (by omega)
            clear hii hgo hie hC15 hle15
            clear hx0 hx1
            have H7i := H7
            have e1 : (cp == 0) = false := beq_eq_false_iff_ne.mpr HEND.out
            have e2 : (cp != 0) = true := bne_iff_ne.mpr HEND.out
            as_aux_lemma =>
              go_wp2_with (first
                | (go_at_call 45; have hq_ : w7 = w7 := rfl; clear hq_; (refine (PRf.galoisref22_Check.calls K7 A2 c2 lp cp _ (Kd.C_below HPt.out (by repeat (first | (with_reducible first | exact Below.refl _ _ | apply below_alloc | apply pw_below_drewN | apply below_drew1) | exact Below.refl _ _))) HC2.out H7i.out).mono ?_); rintro e w8 ⟨rfl, hb8⟩; have hb8 := hb8.below; have hw8 := below_step (w := w7) (by repeat (first | (with_reducible first | exact Below.refl _ _ | apply below_alloc | apply pw_below_drewN | apply below_drew1) | exact Below.refl _ _)) hb8; replace HBT := Aside0.mk (below_step HBT.out hw8); replace HGt := Aside0.mk (Kd.C_below HGt.out hw8); replace HPt := Aside0.mk (Kd.C_below HPt.out hw8); replace hz0 := cell_move hz0 (fun hlt => hw8.block _ hlt); replace hz1 := cell_move hz1 (fun hlt => hw8.block _ hlt); clear hb8 hw8)
                | (go_at_call 44; have hq_ : wr = wr := rfl; clear hq_; (refine (permgroup_Contains.calls K6 (n : Int) A0_1 c0_1 L A15 c15 (prodAt i) true 0 _ (Kd.C_below HGt.out (by repeat (first | (with_reducible first | exact Below.refl _ _ | apply below_alloc | apply pw_below_drewN | apply below_drew1) | exact Below.refl _ _))) HC.out (Kd.C_below HC15.out (by repeat (first | (with_reducible first | exact Below.refl _ _ | apply below_alloc | apply pw_below_drewN | apply below_drew1) | exact Below.refl _ _))) HL15.out H6i.out).mono ?_); rintro e w7 ⟨rfl, hb7⟩; have hw7 := below_step (w := wr) (by repeat (first | (with_reducible first | exact Below.refl _ _ | apply below_alloc | apply pw_below_drewN | apply below_drew1) | exact Below.refl _ _)) hb7; replace HBT := Aside0.mk (below_step HBT.out hw7); replace HGt := Aside0.mk (Kd.C_below HGt.out hw7); replace HPt := Aside0.mk (Kd.C_below HPt.out hw7); replace hz0 := cell_move hz0 (fun hlt => hw7.block _ hlt); replace hz1 := cell_move hz1 (fun hlt => hw7.block _ hlt); clear hb7 hw7))
              go_ret
              exact ⟨rfl, below_then (below_alloc (Below.refl _ _) _) (by simp) HBT.out⟩
          · have i1 : (i < lw.length) = False := eq_false hii
            have i2 : ((i : Int) < (lw.length : Int)) = False := eq_false (by omega)
            clear hii hgo hie hC15 hle15
            clear hx0 hx1
            have H7i := H7
            have e1 : (cp == 0) = false := beq_eq_false_iff_ne.mpr HEND.out
            have e2 : (cp != 0) = true := bne_iff_ne.mpr HEND.out
            as_aux_lemma =>
              go_wp2_with (first
                | (go_at_call 45; have hq_ : w7 = w7 := rfl; clear hq_; (refine (PRf.galoisref22_Check.calls K7 A2 c2 lp cp _ (Kd.C_below HPt.out (by repeat (first | (with_reducible first | exact Below.refl _ _ | apply below_alloc | apply pw_below_drewN | apply below_drew1) | exact Below.refl _ _))) HC2.out H7i.out).mono ?_); rintro e w8 ⟨rfl, hb8⟩; have hb8 := hb8.below; have hw8 := below_step (w := w7) (by repeat (first | (with_reducible first | exact Below.refl _ _ | apply below_alloc | apply pw_below_drewN | apply below_drew1) | exact Below.refl _ _)) hb8; replace HBT := Aside0.mk (below_step HBT.out hw8); replace HGt := Aside0.mk (Kd.C_below HGt.out hw8); replace HPt := Aside0.mk (Kd.C_below HPt.out hw8); replace hz0 := cell_move hz0 (fun hlt => hw8.block _ hlt); replace hz1 := cell_move hz1 (fun hlt => hw8.block _ hlt); clear hb8 hw8)
                | (go_at_call 44; have hq_ : wr = wr := rfl; clear hq_; (refine (permgroup_Contains.calls K6 (n : Int) A0_1 c0_1 L A15 c15 (prodAt i) true 0 _ (Kd.C_below HGt.out (by repeat (first | (with_reducible first | exact Below.refl _ _ | apply below_alloc | apply pw_below_drewN | apply below_drew1) | exact Below.refl _ _))) HC.out (Kd.C_below HC15.out (by repeat (first | (with_reducible first | exact Below.refl _ _ | apply below_alloc | apply pw_below_drewN | apply below_drew1) | exact Below.refl _ _))) HL15.out H6i.out).mono ?_); rintro e w7 ⟨rfl, hb7⟩; have hw7 := below_step (w := wr) (by repeat (first | (with_reducible first | exact Below.refl _ _ | apply below_alloc | apply pw_below_drewN | apply below_drew1) | exact Below.refl _ _)) hb7; replace HBT := Aside0.mk (below_step HBT.out hw7); replace HGt := Aside0.mk (Kd.C_below HGt.out hw7); replace HPt := Aside0.mk (Kd.C_below HPt.out hw7); replace hz0 := cell_move hz0 (fun hlt => hw7.block _ hlt); replace hz1 := cell_move hz1 (fun hlt => hw7.block _ hlt); clear hb7 hw7))
              go_ret
              exact ⟨rfl, below_then (below_alloc (Below.refl _ _) _) (by simp) HBT.out⟩
    | succ m1 =>
      have hil : i < cl.length := by have := HI.out; omega
      obtain ⟨q, hq⟩ : ∃ q, cl[i]? = some q := ⟨_, List.getElem?_eq_getElem hil⟩
      obtain ⟨l1, l2, l3, l4, l5, l6, pt, l7, l8⟩ := HLEV.out i q hq
      obtain ⟨g7, cap7, e7, _, _, _, _⟩ := Kd.R_form HR4.out (by omega)
      injection e7 with e7a e7b e7c
      subst e7a
      have hC7 := Kd.C_below HR5.out HBI.out
      obtain ⟨Ao, co, Aw, cw, q0, q1, q2, q3, q4⟩ := lev_cells hC7 hq
      rw [l7] at q0 l1 l2
      have HOC := Aside0.mk q3
      have HWC := Aside0.mk q4
      have HLL := Aside0.mk l8
      have HOLN := Aside0.mk l4
      have HL6 := Aside0.mk l6
      have HL2 := Aside0.mk l2
      have hj : (i < cl.length) = True := eq_true hil
      have hj2 : ((i : Int) < (cl.length : Int)) = True := eq_true (by omega)
      have hj0 : (0 ≤ (i : Int)) = True := eq_true (by omega)
      have HI2 : Aside0 (i + 1 + m1 = cl.length) := ⟨by have := HI.out; omega⟩
      have wi : wrap64 ((i : Int) + 1) = ((i + 1 : Nat) : Int) := (IntWalk.wrap64_in _ ⟨by omega, by have := HCLN.out; omega⟩).trans (by omega)
      have s1 : decide ((pt : Int) ≤ lastAt i) = false := decide_eq_false (by omega)
      have s2 : decide ((q.f1.length : Int) < 2) = false := decide_eq_false (by omega)
      have s3 : decide (q.f1.length < 2) = false := decide_eq_false (by omega)
      have s4 : ((q.f2.length : Int) != (q.f1.length : Int)) = false := by rw [l5]; simp
      have s5 : (q.f2.length != q.f1.length) = false := by rw [l5]; simp
      clear hil hq l1 l2 l3 l4 l5 l6 l7 l8 q3 q4 hC7 e7b e7c
      obtain ⟨wq, hwq⟩ : ∃ wq : World, wq = wr := ⟨_, rfl⟩
      subst hwq
      go_wp2
      go_quiet (fail)
      go_wp2
      obtain ⟨wo, hwo⟩ : ∃ wo : World, wo = wq.drewN nq := ⟨_, rfl⟩
      have HBO : Aside0 (Below w5.heap.size w5 wo) := ⟨by rw [hwo]; exact pw_below_drewN HBI.out nq⟩
      have HBR : Aside0 (Below wq.heap.size wq wo) := ⟨by rw [hwo]; exact pw_below_drewN (Below.refl _ _) nq⟩
      rw [← hwo]
      clear hwo
      go_loopg [14] q.f1.length (fun kq v14 w' => ∃ (k : Nat), v14 = .int .i64 (k : Int) ∧ Aside0 (Below wq.heap.size wq w') ∧ Aside0 (k + kq = q.f1.length))
      case atStart => exact ⟨0, (by first | rfl | (simp; done)), HBR, ⟨by omega⟩⟩
      case round =>
        clear HBO HBR hz0 hz1
        obtain ⟨k, rfl, HBK, HK⟩ := hrel
        have hz0 := cell_move (w' := wr) hx0 (fun hlt => (below_step HBI.out HBK.out).block _ hlt)
        have hz1 := cell_move (w' := wr) hx1 (fun hlt => (below_step HBI.out HBK.out).block _ hlt)
        have r0 := cell_move (w' := wr) q0 (fun hlt => HBK.out.block _ hlt)
        have r1 := cell_move (w' := wr) q1 (fun hlt => HBK.out.block _ hlt)
        have r2 := cell_move (w' := wr) q2 (fun hlt => HBK.out.block _ hlt)
        have HB5K := Aside0.mk (below_step HBI.out HBK.out)
        cases gk with
        | zero =>
          have hj3 : (k < q.f1.length) = False := eq_false (by have := HK.out; omega)
          have hj4 : ((k : Int) < (q.f1.length : Int)) = False := eq_false (by have := HK.out; omega)
          go_wp2
          go_roundg m1
          case measure => exact Nat.lt_succ_self _
          case rel => exact ⟨i + 1, (by first | (rw [HL6.out]; done) | rfl), (by rw [HL2.out]), (by first | (rw [wi]; done) | rfl), HB5K, HI2⟩
        | succ m2 =>
          have hkl : k < q.f1.length := by have := HK.out; omega
          have hj3 : (k < q.f1.length) = True := eq_true hkl
          have hj4 : ((k : Int) < (q.f1.length : Int)) = True := eq_true (by omega)
          have hk0 : (0 ≤ (k : Int)) = True := eq_true (by omega)
          have wk : wrap64 ((k : Int) + 1) = ((k + 1 : Nat) : Int) := (IntWalk.wrap64_in _ ⟨by omega, by have := HOLN.out; omega⟩).trans (by omega)
          have HLF := Aside0.mk (HLL.out k hkl)
          have HK2 : Aside0 (k + 1 + m2 = q.f1.length) := ⟨by have := HK.out; omega⟩
          clear hkl
          as_aux_lemma =>
            go_wp2
            go_region_with (first | (go_at_call 42; (refine (lifts_any (n := n) (pt := pt) (k := k) (Kd.C_below HG.out (below_step HB5K.out (by repeat (first | (with_reducible first | exact Below.refl _ _ | apply below_alloc | apply pw_below_drewN | apply below_drew1) | exact Below.refl _ _)))) HC.out (Kd.C_below HOC.out (below_step HBK.out (by repeat (first | (with_reducible first | exact Below.refl _ _ | apply below_alloc | apply pw_below_drewN | apply below_drew1) | exact Below.refl _ _)))) (Kd.C_below HWC.out (below_step HBK.out (by repeat (first | (with_reducible first | exact Below.refl _ _ | apply below_alloc | apply pw_below_drewN | apply below_drew1) | exact Below.refl _ _)))) HLF.out).mono ?_); rintro e wl ⟨rfl, hbl⟩; have HBL := Aside0.mk (below_step HBK.out (below_step (w := wr) (by repeat (first | (with_reducible first | exact Below.refl _ _ | apply below_alloc | apply pw_below_drewN | apply below_drew1) | exact Below.refl _ _)) hbl)); clear hbl))
            all_goals
              go_wp2
              go_roundg m2
              case measure => exact Nat.lt_succ_self _
              case rel => exact ⟨k + 1, (by first | (rw [wk]; done) | rfl), HBL, HK2⟩
end Go.Proofs.Ytmbldnoepjmhhaa.Bs
