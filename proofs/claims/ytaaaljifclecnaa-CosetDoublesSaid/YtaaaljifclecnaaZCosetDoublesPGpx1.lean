-- Printed.
import Derived.Test.YtaaaljifclecnaaZCosetDoublesMg0
import Derived.Test.YtaaaljifclecnaaZCosetDoublesPGpx0
namespace Go.Proofs.Ytaaaljifclecnaa.PGp
open Go.RowKit Go.Proofs.YtaaaljifclecnaaW.PrintWords Go.Proofs.YtaaaljifclecnaaW.PrintLast Go.Proofs.YtaaaljifclecnaaW.PrintMore
attribute [local go_sem] max2_int min2_int max_two min_two max_three min_three max_four min_four
set_option linter.unusedVariables false
set_option linter.unusedSimpArgs false
abbrev galoisref23_Place.f := @Go.Proofs.Ytaaaljifclecnaa.PRf.galoisref23_Place.f
abbrev galoisref23_Place.mono := @Go.Proofs.Ytaaaljifclecnaa.PRf.galoisref23_Place.mono
abbrev galoisref23_Place.calls := @Go.Proofs.Ytaaaljifclecnaa.PRf.galoisref23_Place.calls
abbrev galoisref23_Has.f := @Go.Proofs.Ytaaaljifclecnaa.PRf.galoisref23_Has.f
abbrev galoisref23_Has.mono := @Go.Proofs.Ytaaaljifclecnaa.PRf.galoisref23_Has.mono
abbrev galoisref23_Has.calls := @Go.Proofs.Ytaaaljifclecnaa.PRf.galoisref23_Has.calls
abbrev galoisref22_Mul.f := @Go.Proofs.Ytaaaljifclecnaa.PRf.galoisref22_Mul.f
abbrev galoisref22_Mul.mono := @Go.Proofs.Ytaaaljifclecnaa.PRf.galoisref22_Mul.mono
abbrev galoisref22_Mul.calls := @Go.Proofs.Ytaaaljifclecnaa.PRf.galoisref22_Mul.calls
abbrev galoisref23_Close.f := @Go.Proofs.Ytaaaljifclecnaa.Bs.galoisref23_Close.f
abbrev galoisref23_Close.mono := @Go.Proofs.Ytaaaljifclecnaa.Bs.galoisref23_Close.mono
abbrev galoisref23_Close.calls := @Go.Proofs.Ytaaaljifclecnaa.Bs.galoisref23_Close.calls
def galoisref23_Elements.f (k : Nat) (a0_0 : Int) (l0_1 : List (List Int)) : Option ((List (List Int)) × Bool) := (galoisref23_Close.f k a0_0 l0_1).bind fun bt103 => (some (bt103.1, bt103.2))
set_option maxHeartbeats 8000000 in
set_option maxRecDepth 100000 in
theorem galoisref23_Elements.calls (k : Nat) (a0_0 : Int) (A0_1 : Option Addr) (c0_1 : Nat) (l0_1 : List (List Int)) (r1 : List (List Int)) (r2 : Bool) (w : World) (hr0_1 : Kd.C (Kd.slice 3 (Kd.int .i64)) w A0_1 l0_1.length l0_1) (hc0_1 : l0_1.length ≤ c0_1) (h : galoisref23_Elements.f k a0_0 l0_1 = some (r1, r2)) :
  Calls Try.prog 15 #[.agg #[.int .i64 a0_0, .slice A0_1 l0_1.length c0_1]] w fun e w' => ∃ v0_ : Value, e = .returned (.tuple #[v0_, .bool r2]) ∧ Kd.S (Kd.slice 3 (Kd.int .i64)) 43 w' w.heap.size (fun _ => True) v0_ r1 ∧ Below w.heap.size w w' := by
 have hu24 := Try.underlying24
 have HR0_1 := Aside0.mk hr0_1
 have HC0_1 := Aside0.mk hc0_1
 clear hr0_1 hc0_1
 have HB := Aside0.mk (Below.refl w.heap.size w)
 have H : ((galoisref23_Close.f k a0_0 l0_1).bind fun bt103 => (some (bt103.1, bt103.2))) = some (r1, r2) := h
 clear h
 replace H := Option.bind_eq_some_iff.mp H
 obtain ⟨⟨t103, t104⟩, A20, H⟩ := H
 replace H : (some (t103, t104)) = some (r1, r2) := H
 have A2 := Aside0.mk A20
 clear A20
 simp only [Option.some.injEq, Prod.mk.injEq] at H
 obtain ⟨rfl, rfl⟩ := H
 go_enter Try.func15, Try.ntmps15
 go_wp2_with (first|((with_reducible refine gate_dst (N := 1) rfl ?_);refine box_event ?hg (N := 1) ?hd (cs := #[.int .i64 a0_0, .slice A0_1 l0_1.length c0_1]) (t := 24) ?hr ?_;(case hd => rfl);(case hg => rfl);(case hr => first | (go_simp;done) | (go_simp;rfl));intro gb102 hg w3 hbox hb;have n0_ := Aside0.mk (below_step (bel HB.out) hb);have n1_ := Aside0.mk (hbox);have n2_ := Aside0.mk ((by rw [hg];exact (below_size (bel HB.out)) : w.heap.size ≤ gb102));have n3_ := Aside0.mk ((by rw [hg];exact (below_size (bel HB.out)) : w.heap.size ≤ gb102));clear HB;have HB := n0_;have BK102 := n1_;have GW102 := n2_;have GE102 := n3_;clear n0_ n1_ n2_ n3_;clear hb hbox hg;have hcz4_0 : w3.cell? ⟨gb102, 0, none⟩ = some (.int .i64 a0_0) := (blk_cell BK102.out 0).trans rfl;have hcz4_1 : w3.cell? ⟨gb102, 1, none⟩ = some (.slice A0_1 l0_1.length c0_1) := (blk_cell BK102.out 1).trans rfl;have hfz4_0 := blk_frozen BK102.out 0;have hfz4_1 := blk_frozen BK102.out 1) | ((with_reducible refine gate_callee (f := 57) rfl ?_);refine goesL_ (some 8) rfl rfl Try.func57 (by kernel_rfl) rfl #[.int .i64 a0_0, .slice A0_1 l0_1.length c0_1] rfl (by (try simp only [List.map_toArray, List.map_cons, List.map_nil]);first | done | rfl | (simp only [List.length_drop, List.length_take];rfl)) ?_;(with_reducible refine (galoisref23_Close.calls k a0_0 _ _ l0_1 t103 t104 _ ?side1 ?side2 A2.out).mono ?_);(case side1 => exact Cst (Kd.C_below HR0_1.out HB.out));(case side2 => exact HC0_1.out);rintro e w5 ⟨v105, rfl, ho0, hb⟩;refine ⟨_, rfl, ?_⟩;have n0_ := Aside0.mk (Kd.S_lower ho0 (below_size (bel HB.out)));have n1_ := Aside0.mk (blk_below (blkst BK102.out) hb);have n2_ := Aside0.mk (below_step (bel HB.out) hb);clear BK102;clear HB;have HO106 := n0_;have BK102 := n1_;have HB := n2_;clear n0_ n1_ n2_;(try clear hb);(try clear hb2);(try clear hk);(try clear hi);(try clear ho0)))
 go_ret2
 exact ⟨_, by first | rfl | (simp [errW_none, errW_some] <;> rfl) | (simp [*, errW_none, errW_some] <;> rfl), Sst HO106.out, bel HB.out⟩
abbrev galoisref23_Check.f := @Go.Proofs.Ytaaaljifclecnaa.PRf.galoisref23_Check.f
abbrev galoisref23_Check.calls := @Go.Proofs.Ytaaaljifclecnaa.PRf.galoisref23_Check.calls
abbrev galoisref23_Few.f := @Go.Proofs.Ytaaaljifclecnaa.PRf.galoisref23_Few.f
abbrev galoisref23_Few.calls := @Go.Proofs.Ytaaaljifclecnaa.PRf.galoisref23_Few.calls
def galoisref23_Small.f (k : Nat) (a0_0 : Int) (l0_1 : List (List Int)) : Option (Bool) := (galoisref23_Few.f k a0_0 l0_1).bind fun t108 => (if t108 = true then ((galoisref23_Check.f k a0_0 l0_1).bind fun t109 => (if t109 = 0 then ((galoisref23_Elements.f k a0_0 l0_1).bind fun bt110 => (some bt110.2)) else (some false))) else (some false))
set_option maxHeartbeats 8000000 in
set_option maxRecDepth 100000 in
theorem galoisref23_Small.calls (k : Nat) (a0_0 : Int) (A0_1 : Option Addr) (c0_1 : Nat) (l0_1 : List (List Int)) (r : Bool) (w : World) (hr0_1 : Kd.C (Kd.slice 3 (Kd.int .i64)) w A0_1 l0_1.length l0_1) (hc0_1 : l0_1.length ≤ c0_1) (h : galoisref23_Small.f k a0_0 l0_1 = some r) :
  Calls Try.prog 48 #[.agg #[.int .i64 a0_0, .slice A0_1 l0_1.length c0_1]] w fun e w' => e = .returned (.bool r) ∧ Below w.heap.size w w' := by
 have hu := Try.underlying24
 have P0 := Aside0.mk hr0_1
 have L0 := Aside0.mk hc0_1
 unfold galoisref23_Small.f at h
 obtain ⟨t1, h1, h⟩ := Option.bind_eq_some_iff.1 h
 have E1 := Aside0.mk h1
 have X := Aside0.mk (blk_new w (.cells #[.int .i64 a0_0, .slice A0_1 l0_1.length c0_1] 24))
 have B := Aside0.mk (show Below w.heap.size w (w.alloc (.cells #[.int .i64 a0_0, .slice A0_1 l0_1.length c0_1] 24)) from below_alloc (Below.refl _ _) _)
 clear hr0_1 hc0_1 h1
 go_enter Try.func48, Try.ntmps48
 cases t1 with
 | true =>
  rw [if_pos rfl] at h
  obtain ⟨t2, h2, h⟩ := Option.bind_eq_some_iff.1 h
  have E2 := Aside0.mk h2
  clear h2
  by_cases c2 : t2 = 0
  ·subst c2
   rw [if_pos rfl] at h
   obtain ⟨⟨t3, r⟩, h3, h⟩ := Option.bind_eq_some_iff.1 h
   obtain rfl := Option.some.inj h
   have E3 := Aside0.mk h3
   clear h3 h
   go_wp2_with (first
    | (go_at_call 47;(refine (galoisref23_Few.calls k a0_0 A0_1 c0_1 l0_1 true _ (Kd.C_below P0.out (below_step B.out bel0)) L0.out E1.out).mono ?_);rintro e1 w1 ⟨rfl, hb⟩;have hq := below_step (w := (w.alloc (.cells #[.int .i64 a0_0, .slice A0_1 l0_1.length c0_1] 24))) bel0 hb;have B1 := Aside0.mk (below_step B.out hq);have X1 := Aside0.mk ((hq.block _ (blk_lt X.out)).trans X.out);have x10 := blk_cell X1.out 0;have x11 := blk_cell X1.out 1;have z1 := blk_lt X1.out;clear hb hq)
    | (go_at_call 14;(refine (galoisref23_Check.calls k a0_0 A0_1 c0_1 l0_1 0 _ (Kd.C_below P0.out (below_step B1.out bel0)) L0.out E2.out).mono ?_);rintro e2 w2 ⟨rfl, hb⟩;have hq := below_step (w := w1) bel0 hb;have B2 := Aside0.mk (below_step B1.out hq);have X2 := Aside0.mk ((hq.block _ (blk_lt X1.out)).trans X1.out);have x20 := blk_cell X2.out 0;have x21 := blk_cell X2.out 1;have z2 := blk_lt X2.out;clear hb hq)
    | (go_at_call 15;(refine (galoisref23_Elements.calls k a0_0 A0_1 c0_1 l0_1 t3 r _ (Kd.C_below P0.out (below_step B2.out bel0)) L0.out E3.out).mono ?_);rintro e3 w3 ⟨v3, rfl, hs3, hb⟩;have hq := below_step (w := w2) bel0 hb;have B3 := Aside0.mk (below_step B2.out hq);have X3 := Aside0.mk ((hq.block _ (blk_lt X2.out)).trans X2.out);have x30 := blk_cell X3.out 0;have x31 := blk_cell X3.out 1;have z3 := blk_lt X3.out;clear hb hq))
   go_ret
   exact ⟨rfl, B3.out⟩
  ·rw [if_neg c2] at h
   obtain rfl := Option.some.inj h
   have n2 : (t2 == 0) = false := beq_eq_false_iff_ne.mpr c2
   have m2 : (t2 != 0) = true := bne_iff_ne.mpr c2
   clear h c2
   go_wp2_with (first
    | (go_at_call 47;(refine (galoisref23_Few.calls k a0_0 A0_1 c0_1 l0_1 true _ (Kd.C_below P0.out (below_step B.out bel0)) L0.out E1.out).mono ?_);rintro e1 w1 ⟨rfl, hb⟩;have hq := below_step (w := (w.alloc (.cells #[.int .i64 a0_0, .slice A0_1 l0_1.length c0_1] 24))) bel0 hb;have B1 := Aside0.mk (below_step B.out hq);have X1 := Aside0.mk ((hq.block _ (blk_lt X.out)).trans X.out);have x10 := blk_cell X1.out 0;have x11 := blk_cell X1.out 1;have z1 := blk_lt X1.out;clear hb hq)
    | (go_at_call 14;(refine (galoisref23_Check.calls k a0_0 A0_1 c0_1 l0_1 t2 _ (Kd.C_below P0.out (below_step B1.out bel0)) L0.out E2.out).mono ?_);rintro e2 w2 ⟨rfl, hb⟩;have hq := below_step (w := w1) bel0 hb;have B2 := Aside0.mk (below_step B1.out hq);have X2 := Aside0.mk ((hq.block _ (blk_lt X1.out)).trans X1.out);have x20 := blk_cell X2.out 0;have x21 := blk_cell X2.out 1;have z2 := blk_lt X2.out;clear hb hq))
   go_ret
   exact ⟨rfl, B2.out⟩
 | false =>
  rw [if_neg (by decide)] at h
  obtain rfl := Option.some.inj h
  clear h
  go_wp2_with (go_at_call 47;(refine (galoisref23_Few.calls k a0_0 A0_1 c0_1 l0_1 false _ (Kd.C_below P0.out (below_step B.out bel0)) L0.out E1.out).mono ?_);rintro e1 w1 ⟨rfl, hb⟩;have hq := below_step (w := (w.alloc (.cells #[.int .i64 a0_0, .slice A0_1 l0_1.length c0_1] 24))) bel0 hb;have B1 := Aside0.mk (below_step B.out hq);have X1 := Aside0.mk ((hq.block _ (blk_lt X.out)).trans X.out);have x10 := blk_cell X1.out 0;have x11 := blk_cell X1.out 1;have z1 := blk_lt X1.out;clear hb hq)
  go_ret
  exact ⟨rfl, B1.out⟩
def galoisref23_Common.l0 : Nat → List (List Int) → List (List Int) → List (List Int) → Int → Option ((List (List Int)))
 | 0, _, _, _, _ => none
 | k + 1, x0, x1, x5, x6 => if x6 < (x0.length : Int) then (if 0 ≤ x6 then ((galoisref23_Has.f k x1 (rd_L1 x0 x6)).bind fun t115 => (if t115 = true then (if x5.length < 5864062014805 then (galoisref23_Common.l0 k x0 x1 (x5 ++ [rd_L1 x0 x6]) (wrap64 (x6 + 1))) else (none)) else (galoisref23_Common.l0 k x0 x1 x5 (wrap64 (x6 + 1))))) else (none)) else (some x5)
def galoisref23_Common.f (k : Nat) (l0 : List (List Int)) (l1 : List (List Int)) : Option ((List (List Int))) := galoisref23_Common.l0 k l0 l1 ([] : List (List Int)) 0
set_option maxHeartbeats 8000000 in
set_option maxRecDepth 100000 in
theorem galoisref23_Common.calls (k : Nat) (P0_ : Nat → Prop) (A0 : Option Addr) (c0 : Nat) (l0 : List (List Int)) (A1 : Option Addr) (c1 : Nat) (l1 : List (List Int)) (r : List (List Int)) (w : World) (hs0 : Kd.V (Kd.slice 3 (Kd.int .i64)) 43 w w.heap.size (fun k_ => P0_ k_) (.slice A0 l0.length c0) l0) (hr1 : Kd.C (Kd.slice 3 (Kd.int .i64)) w A1 l1.length l1) (hc1 : l1.length ≤ c1) (h : galoisref23_Common.f k l0 l1 = some r) :
  Calls Try.prog 90 #[.slice A0 l0.length c0, .slice A1 l1.length c1] w fun e w' => ∃ v0_ : Value, e = .returned (v0_) ∧ Kd.N (Kd.slice 3 (Kd.int .i64)) 43 w' w.heap.size (fun k_ => (P0_ k_ ∨ w.heap.size ≤ k_)) v0_ r ∧ Below w.heap.size w w' := by
 have HO0 := Aside0.mk (show Kd.V (Kd.slice 3 (Kd.int .i64)) 43 w w.heap.size (fun k_ => (P0_ k_ ∨ w.heap.size ≤ k_)) (.slice A0 l0.length c0) l0 from Kd.V_mono hs0 (fun k_ hk => .inl hk))
 have HR1 := Aside0.mk hr1
 have HC1 := Aside0.mk hc1
 clear hr1 hc1
 have HB := Aside0.mk (Below.refl w.heap.size w)
 have H : (galoisref23_Common.l0 k l0 l1 ([] : List (List Int)) 0) = some r := h
 clear h
 have H' := Aside0.mk H
 clear H
 go_enter Try.func90, Try.ntmps90
 go_wp2
 go_loopg [5, 6] k (fun kq v5 v6 w' => ∃ (x5_1 : List (List Int)) (x6_1 : Int), v6 = .int .i64 x6_1 ∧ Aside0 (galoisref23_Common.l0 kq l0 l1 x5_1 x6_1 = some r) ∧ Aside0 (kq ≤ k) ∧ Aside0 (Kd.V (Kd.slice 3 (Kd.int .i64)) 43 w' w.heap.size (fun k_ => (P0_ k_ ∨ w.heap.size ≤ k_) ∧ some k_ ≠ (v5 : Value).ownBlock) (.slice A0 l0.length c0) l0) ∧ Aside0 (Kd.N (Kd.slice 3 (Kd.int .i64)) 43 w' w.heap.size (fun k_ => (P0_ k_ ∨ w.heap.size ≤ k_)) v5 x5_1) ∧ Aside0 (Below w.heap.size w w'))
 case atStart => exact ⟨(([] : List (List Int))), (0), (by first | rfl | (simp;done) | (simp [*];done)), H', ⟨Nat.le_refl _⟩, ⟨by (with_reducible repeat (first|apply Kd.V_alloc | apply Kd.V_drewN | apply Kd.V_drew));exact Kd.V_mono HO0.out (fun _ hk => ⟨hk, (by simp [Value.ownBlock])⟩)⟩, ⟨by first | exact Kd.S_nil _ _ _ _ _ | exact Kd.N_nil _ _ _ _ _ | exact Kd.V_nil _ _ _ _ _ | exact Kd.Q_nil _ _ _ _ _ | exact Kd.R_nil _ _ _ _ _⟩, ⟨bel HB.out⟩⟩
 case round =>
  clear H'
  try clear c1
  try clear p2
  obtain ⟨x5_1, x6_1, rfl, HA, HK1, HO_0, HO_5, HB⟩ := hrel
  cases gk with
  | zero => exact absurd HA.out (by simp [galoisref23_Common.l0])
  | succ k1 =>
   have H := HA.out
   clear HA
   simp only [galoisref23_Common.l0] at H
   by_cases c3 : x6_1 < (l0.length : Int)
   ·rw [if_pos c3] at H
    have c3b0 : decide (x6_1 < (l0.length : Int)) = true := decide_eq_true c3
    clear c3
    by_cases c4 : 0 ≤ x6_1
    ·rw [if_pos c4] at H
     have c4b0 : decide (0 ≤ x6_1) = true := decide_eq_true c4
     clear c4
     replace H := Option.bind_eq_some_iff.mp H
     obtain ⟨t115, A50, H⟩ := H
     replace H : (if t115 = true then (if x5_1.length < 5864062014805 then (galoisref23_Common.l0 k1 l0 l1 (x5_1 ++ [rd_L1 l0 x6_1]) (wrap64 (x6_1 + 1))) else (none)) else (galoisref23_Common.l0 k1 l0 l1 x5_1 (wrap64 (x6_1 + 1)))) = some r := H
     have A5 := Aside0.mk A50
     clear A50
     by_cases c6 : t115 = true
     ·subst c6
      have H1 : (if x5_1.length < 5864062014805 then (galoisref23_Common.l0 k1 l0 l1 (x5_1 ++ [rd_L1 l0 x6_1]) (wrap64 (x6_1 + 1))) else (none)) = some r := by rw [if_pos rfl] at H;exact H
      clear H
      have H := H1
      clear H1
      by_cases c7 : x5_1.length < 5864062014805
      ·rw [if_pos c7] at H
       have LMc7 := Aside0.mk c7
       clear c7
       obtain ⟨y117, hy117⟩ : ∃ y_ : List (List Int), y_ = (x5_1 ++ [rd_L1 l0 x6_1]) := ⟨_, rfl⟩
       replace H : (galoisref23_Common.l0 k1 l0 l1 y117 (wrap64 (x6_1 + 1))) = some r := by first | (rw [hy117];with_reducible exact H) | (have H2_ := (Option.bind_some _ _).symm.trans H;rw [hy117];with_reducible exact H2_) | (have H2_ := (Option.bind_some _ _).symm.trans H;with_reducible exact H2_) | with_reducible exact H | (rw [hy117];exact H) | exact H
       have Ny117 := Aside0.mk hy117
       clear hy117
       have H' := Aside0.mk H
       clear H
       have p114 : 0 ≤ (x6_1 : Int) := of_decide_eq_true (by assumption)
       have q114 : x6_1 < (l0.length : Int) := of_decide_eq_true (by assumption)
       obtain ⟨ad114, A114_0, c114_0, e114, hx114_0, hl114_0, hi114_0⟩ := at_L1 (Kd.V_reads' HO_0.out).2.2 x6_1 p114 q114
       cases e114
       obtain ⟨ce114, hce114, hMe114, hcc114⟩ := Kd.V_get HO_0.out [] x6_1 p114 (by first | exact q114 | exact of_decide_eq_true (by assumption) | (have e_ := (Kd.V_reads' HO_0.out).1;omega))
       obtain ⟨ua114_0, uc114_0, rfl, ul114_0, ge114_0⟩ := Kd.FK_slice_open hMe114
       have hv114_0 := hcc114 0 _ rfl
       rw [Nat.add_zero, show ((Kd.slice 3 (Kd.int .i64))).sz = 1 from rfl, Nat.mul_one] at hv114_0
       replace hv114_0 := Option.some.inj (hv114_0.symm.trans hx114_0)
       injection hv114_0 with hva_ hvn_ hvc_
       rw [hva_] at ge114_0
       rw [hvc_] at ul114_0
       have HL114_0 := Aside0.mk (show Kd.V (Kd.int .i64) 3 _ w.heap.size _ _ (rd_L1 l0 x6_1) from Kd.V_mk ul114_0 ge114_0)
       clear hva_ hvn_ hvc_ ge114_0 ul114_0
       clear hcc114 hce114
       have HR114_0 := Aside0.mk hi114_0
       have HC114_0 := Aside0.mk hl114_0
       clear hi114_0 hl114_0
       replace p114 := eq_true p114
       replace q114 := eq_true q114
       go_wp2_with (first|((with_reducible refine gate_callee (f := 28) rfl ?_);refine goesL_ (some 18) rfl rfl Try.func28 (by kernel_rfl) rfl #[.slice A1 l1.length c1, .slice A114_0 (rd_L1 l0 x6_1).length c114_0] rfl (by (try simp only [List.map_toArray, List.map_cons, List.map_nil]);first | done | rfl | (simp only [List.length_drop, List.length_take];rfl)) ?_;(with_reducible refine (galoisref23_Has.calls k1 _ _ l1 _ _ (rd_L1 l0 x6_1) true _ ?side1 ?side2 ?side3 ?side4 A5.out).mono ?_);(case side1 => exact Cst (Kd.C_below HR1.out HB.out));(case side2 => exact HC1.out);(case side3 => repeat (first|exact (by repeat (first|(with_reducible exact HR114_0.out) | (with_reducible refine Kd.C_alloc ?_ _) | (with_reducible refine Kd.C_drewN ?_ _) | (with_reducible refine Kd.C_drew ?_) | exact HR114_0.out)) | (with_reducible refine Kd.C_alloc ?_ _) | (with_reducible refine Kd.C_drewN ?_ _) | (with_reducible refine Kd.C_drew ?_)));(case side4 => exact HC114_0.out);rintro e w' ⟨rfl, ⟨nd, rfl⟩⟩;refine ⟨_, rfl, ?_⟩;have p116 : 0 ≤ (x6_1 : Int) := of_decide_eq_true (by assumption);have q116 : x6_1 < (l0.length : Int) := of_decide_eq_true (by assumption);obtain ⟨ad116, A116_0, c116_0, e116, hx116_0, hl116_0, hi116_0⟩ := at_L1 (Kd.V_reads' HO_0.out).2.2 x6_1 p116 q116;obtain rfl : ad114 = ad116 := (by injection e116);obtain ⟨ce116, hce116, hMe116, hcc116⟩ := Kd.V_get HO_0.out [] x6_1 p116 (by first | exact q116 | exact of_decide_eq_true (by assumption) | (have e_ := (Kd.V_reads' HO_0.out).1;omega));obtain ⟨ua116_0, uc116_0, rfl, ul116_0, ge116_0⟩ := Kd.FK_slice_open hMe116;have hv116_0 := hcc116 0 _ rfl;rw [Nat.add_zero, show ((Kd.slice 3 (Kd.int .i64))).sz = 1 from rfl, Nat.mul_one] at hv116_0;replace hv116_0 := Option.some.inj (hv116_0.symm.trans hx116_0);injection hv116_0 with hva_ hvn_ hvc_;rw [hva_] at ge116_0;rw [hvc_] at ul116_0;have HL116_0 := Aside0.mk (show Kd.V (Kd.int .i64) 3 _ w.heap.size _ _ (rd_L1 l0 x6_1) from Kd.V_mk ul116_0 ge116_0);clear hva_ hvn_ hvc_ ge116_0 ul116_0;clear hcc116 hce116;have HR116_0 := Aside0.mk hi116_0;have HC116_0 := Aside0.mk hl116_0;clear hi116_0 hl116_0;replace p116 := eq_true p116;replace q116 := eq_true q116;have ea_ := Option.some.inj (hx114_0.symm.trans hx116_0);injection ea_ with ea_ en_ ec_;subst ea_;subst ec_;clear en_) | ((with_reducible refine gate_builtin (b := .append) (xs := #[.tmp 19, .tmp 24]) rfl ?_);at_builtin;refine Kd.N_append (Kd.slice 3 (Kd.int .i64)) (w0 := w) w.heap.size rfl (.tmp 19) (.tmp 24) 22 43 (.slice none 0 0) 24 rfl Try.underlying22 info43 rfl (by decide) (by omega) u5 x5_1 (rd_L1 l0 x6_1) [.slice A114_0 (rd_L1 l0 x6_1).length c114_0] (fun k_ => (P0_ k_ ∨ w.heap.size ≤ k_)) (fun k_ => ((fun k_ => (P0_ k_ ∨ w.heap.size ≤ k_))) k_ ∧ some k_ ≠ (u5 : Value).ownBlock) rfl rfl ?aP (fun _ hk => hk) ?aF ?aO ?aB ?aS ?aL ?_;(case aP => first | exact (Kd.FK_slice_mk (Kd.V_reads' (Kd.V_mono (ok' := (fun k_ => ((fun k_ => (P0_ k_ ∨ w.heap.size ≤ k_))) k_ ∧ some k_ ≠ (u5 : Value).ownBlock)) (HL116_0.out) (fun k_ hk => ⟨hk.1, hk.2⟩))).2.1 (Kd.V_F (Kd.V_mono (ok' := (fun k_ => ((fun k_ => (P0_ k_ ∨ w.heap.size ≤ k_))) k_ ∧ some k_ ≠ (u5 : Value).ownBlock)) (HL116_0.out) (fun k_ hk => ⟨hk.1, hk.2⟩)))) | (refine Kd.FK_slice_mk (Kd.V_reads' HL116_0.out).2.1 ?_;(with_reducible repeat (first|apply Kd.F_alloc | apply Kd.F_drewN | apply Kd.F_drew));exact (Kd.V_F (Kd.V_mono (ok' := (fun k_ => ((fun k_ => (P0_ k_ ∨ w.heap.size ≤ k_))) k_ ∧ some k_ ≠ (u5 : Value).ownBlock)) (HL116_0.out) (fun k_ hk => ⟨hk.1, hk.2⟩)))));(case aB => exact (bel HB.out));(case aF => exact (fun k_ hk => (.inr (Nat.le_trans (below_size (bel HB.out)) hk))));(case aO => exact (Nst HO_5.out));(case aS => exact (below_size (bel HB.out)));(case aL => have := LMc7.out;omega);intro v118 w8 ho hb hg hat;rw [← Ny117.out] at ho;have n0_ := Aside0.mk (Kd.V_afterv (ok := (fun k_ => (P0_ k_ ∨ w.heap.size ≤ k_))) (Vst HO_0.out) hg hat);have n1_ := Aside0.mk (Kd.V_afterv (ok := (fun k_ => (P0_ k_ ∨ w.heap.size ≤ k_))) (Vst HL114_0.out) hg hat);have n2_ := Aside0.mk (Kd.V_afterv (ok := (fun k_ => (P0_ k_ ∨ w.heap.size ≤ k_))) (Vst HL116_0.out) hg hat);have n3_ := Aside0.mk (hb);have n4_ := Aside0.mk (ho);clear HO_0;clear HL114_0;clear HL116_0;clear HB;clear HO_5;have HO_0 := n0_;have HL114_0 := n1_;have HL116_0 := n2_;have HB := n3_;have HO119 := n4_;clear n0_ n1_ n2_ n3_ n4_;clear ho hb hg hat))
       go_roundg k1
       case measure => have := HK1.out;omega
       case rel => exact ⟨(y117), (wrap64 (x6_1 + 1)), (by first | rfl | (simp;done) | (simp [*];done)), H', ⟨by have := HK1.out;omega⟩, ⟨Vst HO_0.out⟩, ⟨Nst HO119.out⟩, ⟨bel HB.out⟩⟩
      ·rw [if_neg c7] at H
       exact absurd H (by simp)
     ·replace c6 := Bool.eq_false_iff.mpr c6
      subst c6
      have H1 : (galoisref23_Common.l0 k1 l0 l1 x5_1 (wrap64 (x6_1 + 1))) = some r := by rw [if_neg (show ¬ (false = true) by decide)] at H;exact H
      clear H
      have H := H1
      clear H1
      have H' := Aside0.mk H
      clear H
      have p114 : 0 ≤ (x6_1 : Int) := of_decide_eq_true (by assumption)
      have q114 : x6_1 < (l0.length : Int) := of_decide_eq_true (by assumption)
      obtain ⟨ad114, A114_0, c114_0, e114, hx114_0, hl114_0, hi114_0⟩ := at_L1 (Kd.V_reads' HO_0.out).2.2 x6_1 p114 q114
      cases e114
      obtain ⟨ce114, hce114, hMe114, hcc114⟩ := Kd.V_get HO_0.out [] x6_1 p114 (by first | exact q114 | exact of_decide_eq_true (by assumption) | (have e_ := (Kd.V_reads' HO_0.out).1;omega))
      obtain ⟨ua114_0, uc114_0, rfl, ul114_0, ge114_0⟩ := Kd.FK_slice_open hMe114
      have hv114_0 := hcc114 0 _ rfl
      rw [Nat.add_zero, show ((Kd.slice 3 (Kd.int .i64))).sz = 1 from rfl, Nat.mul_one] at hv114_0
      replace hv114_0 := Option.some.inj (hv114_0.symm.trans hx114_0)
      injection hv114_0 with hva_ hvn_ hvc_
      rw [hva_] at ge114_0
      rw [hvc_] at ul114_0
      have HL114_0 := Aside0.mk (show Kd.V (Kd.int .i64) 3 _ w.heap.size _ _ (rd_L1 l0 x6_1) from Kd.V_mk ul114_0 ge114_0)
      clear hva_ hvn_ hvc_ ge114_0 ul114_0
      clear hcc114 hce114
      have HR114_0 := Aside0.mk hi114_0
      have HC114_0 := Aside0.mk hl114_0
      clear hi114_0 hl114_0
      replace p114 := eq_true p114
      replace q114 := eq_true q114
      go_wp2_with (first|((with_reducible refine gate_callee (f := 28) rfl ?_);refine goesL_ (some 18) rfl rfl Try.func28 (by kernel_rfl) rfl #[.slice A1 l1.length c1, .slice A114_0 (rd_L1 l0 x6_1).length c114_0] rfl (by (try simp only [List.map_toArray, List.map_cons, List.map_nil]);first | done | rfl | (simp only [List.length_drop, List.length_take];rfl)) ?_;(with_reducible refine (galoisref23_Has.calls k1 _ _ l1 _ _ (rd_L1 l0 x6_1) false _ ?side1 ?side2 ?side3 ?side4 A5.out).mono ?_);(case side1 => exact Cst (Kd.C_below HR1.out HB.out));(case side2 => exact HC1.out);(case side3 => repeat (first|exact (by repeat (first|(with_reducible exact HR114_0.out) | (with_reducible refine Kd.C_alloc ?_ _) | (with_reducible refine Kd.C_drewN ?_ _) | (with_reducible refine Kd.C_drew ?_) | exact HR114_0.out)) | (with_reducible refine Kd.C_alloc ?_ _) | (with_reducible refine Kd.C_drewN ?_ _) | (with_reducible refine Kd.C_drew ?_)));(case side4 => exact HC114_0.out);rintro e w' ⟨rfl, ⟨nd, rfl⟩⟩;refine ⟨_, rfl, ?_⟩))
      go_roundg k1
      case measure => have := HK1.out;omega
      case rel => exact ⟨(x5_1), (wrap64 (x6_1 + 1)), (by first | rfl | (simp;done) | (simp [*];done)), H', ⟨by have := HK1.out;omega⟩, ⟨Vst HO_0.out⟩, ⟨Nst HO_5.out⟩, ⟨bel HB.out⟩⟩
    ·rw [if_neg c4] at H
     exact absurd H (by simp)
   ·rw [if_neg c3] at H
    have c3b0 : decide (x6_1 < (l0.length : Int)) = false := decide_eq_false c3
    clear c3
    obtain rfl := Option.some.inj H
    go_wp2
    go_ret
    exact ⟨_, by first | rfl | (simp [errW_none, errW_some] <;> rfl) | (simp [*, errW_none, errW_some] <;> rfl), Nst HO_5.out, bel HB.out⟩
def galoisref23_Subset.f (k : Nat) (l0 : List (List Int)) (l1 : List (List Int)) : Option (Bool) := (galoisref23_Common.f k l0 l1).bind fun t120 => (some ((t120.length : Int) == (l0.length : Int)))
set_option maxHeartbeats 8000000 in
set_option maxRecDepth 100000 in
theorem galoisref23_Subset.calls (k : Nat) (A0 : Option Addr) (c0 : Nat) (l0 : List (List Int)) (A1 : Option Addr) (c1 : Nat) (l1 : List (List Int)) (r : Bool) (w : World) (hr0 : Kd.C (Kd.slice 3 (Kd.int .i64)) w A0 l0.length l0) (hc0 : l0.length ≤ c0) (hr1 : Kd.C (Kd.slice 3 (Kd.int .i64)) w A1 l1.length l1) (hc1 : l1.length ≤ c1) (h : galoisref23_Subset.f k l0 l1 = some r) :
  Calls Try.prog 80 #[.slice A0 l0.length c0, .slice A1 l1.length c1] w fun e w' => e = .returned (.bool r) ∧ Below w.heap.size w w' := by
 have HR0 := Aside0.mk hr0
 have HC0 := Aside0.mk hc0
 clear hr0 hc0
 have HR1 := Aside0.mk hr1
 have HC1 := Aside0.mk hc1
 clear hr1 hc1
 have HB := Aside0.mk (Below.refl w.heap.size w)
 have H : ((galoisref23_Common.f k l0 l1).bind fun t120 => (some ((t120.length : Int) == (l0.length : Int)))) = some r := h
 clear h
 replace H := Option.bind_eq_some_iff.mp H
 obtain ⟨t120, A30, H⟩ := H
 replace H : (some ((t120.length : Int) == (l0.length : Int))) = some r := H
 have A3 := Aside0.mk A30
 clear A30
 obtain rfl := Option.some.inj H
 go_enter Try.func80, Try.ntmps80
 go_wp2_with (first|((with_reducible refine gate_callee (f := 90) rfl ?_);refine goesL_ (some 7) rfl rfl Try.func90 (by kernel_rfl) rfl #[.slice A0 l0.length c0, .slice A1 l1.length c1] rfl (by (try simp only [List.map_toArray, List.map_cons, List.map_nil]);first | done | rfl | (simp only [List.length_drop, List.length_take];rfl)) ?_;(with_reducible refine (galoisref23_Common.calls k (fun k_ => k_ < w.heap.size) _ _ l0 _ _ l1 t120 _ ?side1 ?side2 ?side3 A3.out).mono ?_);(case side1 => exact Kd.V_mk HC0.out (Kd.F_below (Kd.C_F (Kd.heap_slice 3 (Kd.heap_int .i64)) HR0.out) (bel HB.out)));(case side2 => exact Cst HR1.out);(case side3 => exact HC1.out);rintro e w4 ⟨v121, rfl, ho0, hb⟩;refine ⟨_, rfl, ?_⟩;have n0_ := Aside0.mk (Kd.N_lower (Kd.N_mono (ok' := fun k_ => True) ho0 (fun k_ hk_ => trivial)) (below_size (bel HB.out)));have n1_ := Aside0.mk (below_step (bel HB.out) hb);clear HB;have HO122 := n0_;have HB := n1_;clear n0_ n1_;(try clear hb);(try clear hb2);(try clear hk);(try clear hi);(try clear ho0);obtain ⟨Ao5, co5, eo5⟩ := Kd.N_slice HO122.out;subst eo5))
 go_ret
 exact ⟨by first | rfl | (simp [errW_none, errW_some] <;> rfl) | (simp [*, errW_none, errW_some] <;> rfl), bel HB.out⟩
abbrev galoisref23_Two.f := @Go.Proofs.Ytaaaljifclecnaa.PRf.galoisref23_Two.f
abbrev galoisref23_Two.calls := @Go.Proofs.Ytaaaljifclecnaa.PRf.galoisref23_Two.calls
def galoisref27_Groups.f (k : Nat) (a0_0 : Int) (l0_1 : List (List Int)) (a1_0 : Int) (l1_1 : List (List Int)) : Option ((List (List Int)) × (List (List Int)) × Int) := (galoisref23_Two.f k a0_0 l0_1 a1_0 l1_1).bind fun t125 => (if t125 = 0 then ((galoisref23_Elements.f k a0_0 l0_1).bind fun bt126 => ((galoisref23_Elements.f k a1_0 l1_1).bind fun bt130 => ((galoisref23_Subset.f k bt130.1 bt126.1).bind fun t134 => (if t134 = true then (some (bt126.1, bt130.1, 0)) else (some (bt126.1, bt130.1, 15)))))) else (some (([] : List (List Int)), ([] : List (List Int)), t125)))
set_option maxHeartbeats 8000000 in
set_option maxRecDepth 100000 in
theorem galoisref27_Groups.calls (k : Nat) (a0_0 : Int) (A0_1 : Option Addr) (c0_1 : Nat) (l0_1 : List (List Int)) (a1_0 : Int) (A1_1 : Option Addr) (c1_1 : Nat) (l1_1 : List (List Int)) (r1 : List (List Int)) (r2 : List (List Int)) (r3 : Int) (w : World) (hr0_1 : Kd.C (Kd.slice 3 (Kd.int .i64)) w A0_1 l0_1.length l0_1) (hc0_1 : l0_1.length ≤ c0_1) (hr1_1 : Kd.C (Kd.slice 3 (Kd.int .i64)) w A1_1 l1_1.length l1_1) (hc1_1 : l1_1.length ≤ c1_1) (h : galoisref27_Groups.f k a0_0 l0_1 a1_0 l1_1 = some (r1, r2, r3)) :
  Calls Try.prog 59 #[.agg #[.int .i64 a0_0, .slice A0_1 l0_1.length c0_1], .agg #[.int .i64 a1_0, .slice A1_1 l1_1.length c1_1]] w fun e w' => ∃ v0_ v1_ : Value, e = .returned (.tuple #[v0_, v1_, .int .i64 r3]) ∧ Kd.S (Kd.slice 3 (Kd.int .i64)) 43 w' w.heap.size (fun k_ => some k_ ≠ (v1_ : Value).ownBlock) v0_ r1 ∧ Kd.S (Kd.slice 3 (Kd.int .i64)) 43 w' w.heap.size (fun k_ => some k_ ≠ (v0_ : Value).ownBlock) v1_ r2 ∧ Below w.heap.size w w' := by
 have hu := Try.underlying24
 have P0 := Aside0.mk hr0_1
 have L0 := Aside0.mk hc0_1
 have P1 := Aside0.mk hr1_1
 have L1 := Aside0.mk hc1_1
 unfold galoisref27_Groups.f at h
 obtain ⟨t1, h1, h⟩ := Option.bind_eq_some_iff.1 h
 have E1 := Aside0.mk h1
 have X := Aside0.mk (show ((w.alloc (.cells #[.int .i64 a0_0, .slice A0_1 l0_1.length c0_1] 24)).alloc (.cells #[.int .i64 a1_0, .slice A1_1 l1_1.length c1_1] 24)).heap[w.heap.size]? = some (.cells #[.int .i64 a0_0, .slice A0_1 l0_1.length c0_1] 24) ∧ ((w.alloc (.cells #[.int .i64 a0_0, .slice A0_1 l0_1.length c0_1] 24)).alloc (.cells #[.int .i64 a1_0, .slice A1_1 l1_1.length c1_1] 24)).heap[w.heap.size + 1]? = some (.cells #[.int .i64 a1_0, .slice A1_1 l1_1.length c1_1] 24) from by
  have h1 := blk_new w (.cells #[.int .i64 a0_0, .slice A0_1 l0_1.length c0_1] 24)
  have h2 := blk_new (w.alloc (.cells #[.int .i64 a0_0, .slice A0_1 l0_1.length c0_1] 24)) (.cells #[.int .i64 a1_0, .slice A1_1 l1_1.length c1_1] 24)
  rw [show (w.alloc (.cells #[.int .i64 a0_0, .slice A0_1 l0_1.length c0_1] 24)).heap.size = w.heap.size + 1 by simp] at h2
  exact ⟨((below_alloc (Below.refl _ _) _).block _ (blk_lt h1)).trans h1, h2⟩)
 have B := Aside0.mk (show Below w.heap.size w ((w.alloc (.cells #[.int .i64 a0_0, .slice A0_1 l0_1.length c0_1] 24)).alloc (.cells #[.int .i64 a1_0, .slice A1_1 l1_1.length c1_1] 24)) from below_alloc (below_alloc (Below.refl _ _) _) _)
 clear hr0_1 hc0_1 hr1_1 hc1_1 h1
 go_enter Try.func59, Try.ntmps59
 by_cases c1 : t1 = 0
 ·subst c1
  rw [if_pos rfl] at h
  obtain ⟨⟨ta, tb⟩, h2, h⟩ := Option.bind_eq_some_iff.1 h
  obtain ⟨⟨tc, td⟩, h3, h⟩ := Option.bind_eq_some_iff.1 h
  obtain ⟨t4, h4, h⟩ := Option.bind_eq_some_iff.1 h
  have E2 := Aside0.mk h2
  have E3 := Aside0.mk h3
  have E4 := Aside0.mk h4
  clear h2 h3 h4
  cases t4 with
  | true =>
   rw [if_pos rfl] at h
   obtain ⟨rfl, hh⟩ := Prod.mk.inj (Option.some.inj h)
   obtain ⟨rfl, rfl⟩ := Prod.mk.inj hh
   clear h hh
   go_wp2_with (first
    | (go_at_call 80;(refine (galoisref23_Subset.calls k A3 c3 tc A2 c2 ta true _ (Kd.C_below (Kd.R_reads' (Kd.S_R S3.out)).2.2 bel0) (Kd.R_reads' (Kd.S_R S3.out)).2.1 (Kd.C_below (Kd.R_reads' (Kd.S_R S2.out)).2.2 (below_step Q3.out bel0)) (Kd.R_reads' (Kd.S_R S2.out)).2.1 E4.out).mono ?_);rintro e4 w4 ⟨rfl, hb⟩;have hq := below_step (w := w3) bel0 hb;have B4 := Aside0.mk (below_step B3.out hq);have X4 := Aside0.mk (And.intro ((hq.block _ (blk_lt X3.out.1)).trans X3.out.1) ((hq.block _ (blk_lt X3.out.2)).trans X3.out.2));have x40 := blk_cell X4.out.1 0;have x41 := blk_cell X4.out.1 1;have y40 := blk_cell X4.out.2 0;have y41 := blk_cell X4.out.2 1;have z4 := blk_lt X4.out.1;have v4 := blk_lt X4.out.2;have Q4 := Aside0.mk hq;clear hb hq)
    | (go_at_call 15;(refine (galoisref23_Elements.calls k a1_0 A1_1 c1_1 l1_1 tc td _ (Kd.C_below P1.out (below_step B2.out bel0)) L1.out E3.out).mono ?_);rintro e3 w3 ⟨v3_, rfl, hs3, hb⟩;obtain ⟨A3, c3, e3_⟩ := Kd.R_slice (Kd.S_R hs3);subst e3_;have S3 := Aside0.mk hs3;clear hs3;have hq := below_step (w := w2) bel0 hb;have B3 := Aside0.mk (below_step B2.out hq);have X3 := Aside0.mk (And.intro ((hq.block _ (blk_lt X2.out.1)).trans X2.out.1) ((hq.block _ (blk_lt X2.out.2)).trans X2.out.2));have x30 := blk_cell X3.out.1 0;have x31 := blk_cell X3.out.1 1;have y30 := blk_cell X3.out.2 0;have y31 := blk_cell X3.out.2 1;have z3 := blk_lt X3.out.1;have v3 := blk_lt X3.out.2;have Q3 := Aside0.mk hq;clear hb hq)
    | (go_at_call 15;(refine (galoisref23_Elements.calls k a0_0 A0_1 c0_1 l0_1 ta tb _ (Kd.C_below P0.out (below_step B1.out bel0)) L0.out E2.out).mono ?_);rintro e2 w2 ⟨v2_, rfl, hs2, hb⟩;obtain ⟨A2, c2, e2_⟩ := Kd.R_slice (Kd.S_R hs2);subst e2_;have S2 := Aside0.mk hs2;clear hs2;have hq := below_step (w := w1) bel0 hb;have B2 := Aside0.mk (below_step B1.out hq);have X2 := Aside0.mk (And.intro ((hq.block _ (blk_lt X1.out.1)).trans X1.out.1) ((hq.block _ (blk_lt X1.out.2)).trans X1.out.2));have x20 := blk_cell X2.out.1 0;have x21 := blk_cell X2.out.1 1;have y20 := blk_cell X2.out.2 0;have y21 := blk_cell X2.out.2 1;have z2 := blk_lt X2.out.1;have v2 := blk_lt X2.out.2;clear hb hq)
    | (go_at_call 24;(refine (galoisref23_Two.calls k a0_0 A0_1 c0_1 l0_1 a1_0 A1_1 c1_1 l1_1 0 _ (Kd.C_below P0.out (below_step B.out bel0)) L0.out (Kd.C_below P1.out (below_step B.out bel0)) L1.out E1.out).mono ?_);rintro e1 w1 ⟨rfl, hb⟩;have hq := below_step (w := ((w.alloc (.cells #[.int .i64 a0_0, .slice A0_1 l0_1.length c0_1] 24)).alloc (.cells #[.int .i64 a1_0, .slice A1_1 l1_1.length c1_1] 24))) bel0 hb;have B1 := Aside0.mk (below_step B.out hq);have X1 := Aside0.mk (And.intro ((hq.block _ (blk_lt X.out.1)).trans X.out.1) ((hq.block _ (blk_lt X.out.2)).trans X.out.2));have x10 := blk_cell X1.out.1 0;have x11 := blk_cell X1.out.1 1;have y10 := blk_cell X1.out.2 0;have y11 := blk_cell X1.out.2 1;have z1 := blk_lt X1.out.1;have v1 := blk_lt X1.out.2;clear hb hq))
   go_ret3
   refine ⟨.slice A2 ta.length c2, .slice A3 tc.length c3, rfl, ?_, ?_, B4.out⟩
   ·refine Kd.S_mono (Kd.S_lower (Kd.S_below (Kd.S_bound S2.out) (below_step Q3.out Q4.out)) B1.out.size) (fun b hb e => ?_)
    exact absurd (Kd.S_base S3.out b e.symm) (Nat.not_le_of_lt hb.2.2.1)
   ·refine Kd.S_mono (Kd.S_lower (Kd.S_below (Kd.S_bound S3.out) Q4.out) B2.out.size) (fun b hb e => ?_)
    exact absurd hb.2.1 (Nat.not_le_of_lt (Kd.S_lt S2.out b e.symm))
  | false =>
   rw [if_neg (by decide)] at h
   obtain ⟨rfl, hh⟩ := Prod.mk.inj (Option.some.inj h)
   obtain ⟨rfl, rfl⟩ := Prod.mk.inj hh
   clear h hh
   go_wp2_with (first
    | (go_at_call 80;(refine (galoisref23_Subset.calls k A3 c3 tc A2 c2 ta false _ (Kd.C_below (Kd.R_reads' (Kd.S_R S3.out)).2.2 bel0) (Kd.R_reads' (Kd.S_R S3.out)).2.1 (Kd.C_below (Kd.R_reads' (Kd.S_R S2.out)).2.2 (below_step Q3.out bel0)) (Kd.R_reads' (Kd.S_R S2.out)).2.1 E4.out).mono ?_);rintro e4 w4 ⟨rfl, hb⟩;have hq := below_step (w := w3) bel0 hb;have B4 := Aside0.mk (below_step B3.out hq);have X4 := Aside0.mk (And.intro ((hq.block _ (blk_lt X3.out.1)).trans X3.out.1) ((hq.block _ (blk_lt X3.out.2)).trans X3.out.2));have x40 := blk_cell X4.out.1 0;have x41 := blk_cell X4.out.1 1;have y40 := blk_cell X4.out.2 0;have y41 := blk_cell X4.out.2 1;have z4 := blk_lt X4.out.1;have v4 := blk_lt X4.out.2;have Q4 := Aside0.mk hq;clear hb hq)
    | (go_at_call 15;(refine (galoisref23_Elements.calls k a1_0 A1_1 c1_1 l1_1 tc td _ (Kd.C_below P1.out (below_step B2.out bel0)) L1.out E3.out).mono ?_);rintro e3 w3 ⟨v3_, rfl, hs3, hb⟩;obtain ⟨A3, c3, e3_⟩ := Kd.R_slice (Kd.S_R hs3);subst e3_;have S3 := Aside0.mk hs3;clear hs3;have hq := below_step (w := w2) bel0 hb;have B3 := Aside0.mk (below_step B2.out hq);have X3 := Aside0.mk (And.intro ((hq.block _ (blk_lt X2.out.1)).trans X2.out.1) ((hq.block _ (blk_lt X2.out.2)).trans X2.out.2));have x30 := blk_cell X3.out.1 0;have x31 := blk_cell X3.out.1 1;have y30 := blk_cell X3.out.2 0;have y31 := blk_cell X3.out.2 1;have z3 := blk_lt X3.out.1;have v3 := blk_lt X3.out.2;have Q3 := Aside0.mk hq;clear hb hq)
    | (go_at_call 15;(refine (galoisref23_Elements.calls k a0_0 A0_1 c0_1 l0_1 ta tb _ (Kd.C_below P0.out (below_step B1.out bel0)) L0.out E2.out).mono ?_);rintro e2 w2 ⟨v2_, rfl, hs2, hb⟩;obtain ⟨A2, c2, e2_⟩ := Kd.R_slice (Kd.S_R hs2);subst e2_;have S2 := Aside0.mk hs2;clear hs2;have hq := below_step (w := w1) bel0 hb;have B2 := Aside0.mk (below_step B1.out hq);have X2 := Aside0.mk (And.intro ((hq.block _ (blk_lt X1.out.1)).trans X1.out.1) ((hq.block _ (blk_lt X1.out.2)).trans X1.out.2));have x20 := blk_cell X2.out.1 0;have x21 := blk_cell X2.out.1 1;have y20 := blk_cell X2.out.2 0;have y21 := blk_cell X2.out.2 1;have z2 := blk_lt X2.out.1;have v2 := blk_lt X2.out.2;clear hb hq)
    | (go_at_call 24;(refine (galoisref23_Two.calls k a0_0 A0_1 c0_1 l0_1 a1_0 A1_1 c1_1 l1_1 0 _ (Kd.C_below P0.out (below_step B.out bel0)) L0.out (Kd.C_below P1.out (below_step B.out bel0)) L1.out E1.out).mono ?_);rintro e1 w1 ⟨rfl, hb⟩;have hq := below_step (w := ((w.alloc (.cells #[.int .i64 a0_0, .slice A0_1 l0_1.length c0_1] 24)).alloc (.cells #[.int .i64 a1_0, .slice A1_1 l1_1.length c1_1] 24))) bel0 hb;have B1 := Aside0.mk (below_step B.out hq);have X1 := Aside0.mk (And.intro ((hq.block _ (blk_lt X.out.1)).trans X.out.1) ((hq.block _ (blk_lt X.out.2)).trans X.out.2));have x10 := blk_cell X1.out.1 0;have x11 := blk_cell X1.out.1 1;have y10 := blk_cell X1.out.2 0;have y11 := blk_cell X1.out.2 1;have z1 := blk_lt X1.out.1;have v1 := blk_lt X1.out.2;clear hb hq))
   go_ret3
   refine ⟨.slice A2 ta.length c2, .slice A3 tc.length c3, rfl, ?_, ?_, B4.out⟩
   ·refine Kd.S_mono (Kd.S_lower (Kd.S_below (Kd.S_bound S2.out) (below_step Q3.out Q4.out)) B1.out.size) (fun b hb e => ?_)
    exact absurd (Kd.S_base S3.out b e.symm) (Nat.not_le_of_lt hb.2.2.1)
   ·refine Kd.S_mono (Kd.S_lower (Kd.S_below (Kd.S_bound S3.out) Q4.out) B2.out.size) (fun b hb e => ?_)
    exact absurd hb.2.1 (Nat.not_le_of_lt (Kd.S_lt S2.out b e.symm))
 ·rw [if_neg c1] at h
  obtain ⟨rfl, hh⟩ := Prod.mk.inj (Option.some.inj h)
  obtain ⟨rfl, rfl⟩ := Prod.mk.inj hh
  have n1 : (t1 == 0) = false := beq_eq_false_iff_ne.mpr c1
  have m1 : (t1 != 0) = true := bne_iff_ne.mpr c1
  clear h hh c1
  go_wp2_with (go_at_call 24;(refine (galoisref23_Two.calls k a0_0 A0_1 c0_1 l0_1 a1_0 A1_1 c1_1 l1_1 t1 _ (Kd.C_below P0.out (below_step B.out bel0)) L0.out (Kd.C_below P1.out (below_step B.out bel0)) L1.out E1.out).mono ?_);rintro e1 w1 ⟨rfl, hb⟩;have hq := below_step (w := ((w.alloc (.cells #[.int .i64 a0_0, .slice A0_1 l0_1.length c0_1] 24)).alloc (.cells #[.int .i64 a1_0, .slice A1_1 l1_1.length c1_1] 24))) bel0 hb;have B1 := Aside0.mk (below_step B.out hq);have X1 := Aside0.mk (And.intro ((hq.block _ (blk_lt X.out.1)).trans X.out.1) ((hq.block _ (blk_lt X.out.2)).trans X.out.2));have x10 := blk_cell X1.out.1 0;have x11 := blk_cell X1.out.1 1;have y10 := blk_cell X1.out.2 0;have y11 := blk_cell X1.out.2 1;have z1 := blk_lt X1.out.1;have v1 := blk_lt X1.out.2;clear hb hq)
  go_ret3
  exact ⟨_, _, rfl, Kd.S_nil _ _ _ _ _, Kd.S_nil _ _ _ _ _, B1.out⟩
def galoislaw27_large.f (k : Nat) (a0_0 : Int) (l0_1 : List (List Int)) : Option (Bool) := (galoisref23_Few.f k a0_0 l0_1).bind fun t136 => (if t136 = true then ((galoisref23_Check.f k a0_0 l0_1).bind fun t137 => (if t137 = 0 then ((galoisref23_Small.f k a0_0 l0_1).bind fun t138 => (some (!t138))) else (some false))) else (some true))
set_option maxHeartbeats 8000000 in
set_option maxRecDepth 100000 in
theorem galoislaw27_large.calls (k : Nat) (a0_0 : Int) (A0_1 : Option Addr) (c0_1 : Nat) (l0_1 : List (List Int)) (r : Bool) (w : World) (hr0_1 : Kd.C (Kd.slice 3 (Kd.int .i64)) w A0_1 l0_1.length l0_1) (hc0_1 : l0_1.length ≤ c0_1) (h : galoislaw27_large.f k a0_0 l0_1 = some r) :
  Calls Try.prog 11 #[.agg #[.int .i64 a0_0, .slice A0_1 l0_1.length c0_1]] w fun e w' => e = .returned (.bool r) ∧ Below w.heap.size w w' := by
 have hu := Try.underlying24
 have P0 := Aside0.mk hr0_1
 have L0 := Aside0.mk hc0_1
 unfold galoislaw27_large.f at h
 obtain ⟨t1, h1, h⟩ := Option.bind_eq_some_iff.1 h
 have E1 := Aside0.mk h1
 have X := Aside0.mk (blk_new w (.cells #[.int .i64 a0_0, .slice A0_1 l0_1.length c0_1] 24))
 have B := Aside0.mk (show Below w.heap.size w (w.alloc (.cells #[.int .i64 a0_0, .slice A0_1 l0_1.length c0_1] 24)) from below_alloc (Below.refl _ _) _)
 clear hr0_1 hc0_1 h1
 go_enter Try.func11, Try.ntmps11
 cases t1 with
 | true =>
  rw [if_pos rfl] at h
  obtain ⟨t2, h2, h⟩ := Option.bind_eq_some_iff.1 h
  have E2 := Aside0.mk h2
  clear h2
  by_cases c2 : t2 = 0
  ·subst c2
   rw [if_pos rfl] at h
   obtain ⟨t3, h3, h⟩ := Option.bind_eq_some_iff.1 h
   obtain rfl := Option.some.inj h
   have E3 := Aside0.mk h3
   clear h3 h
   go_wp2_with (first
    | (go_at_call 47;(refine (galoisref23_Few.calls k a0_0 A0_1 c0_1 l0_1 true _ (Kd.C_below P0.out (below_step B.out bel0)) L0.out E1.out).mono ?_);rintro e1 w1 ⟨rfl, hb⟩;have hq := below_step (w := (w.alloc (.cells #[.int .i64 a0_0, .slice A0_1 l0_1.length c0_1] 24))) bel0 hb;have B1 := Aside0.mk (below_step B.out hq);have X1 := Aside0.mk ((hq.block _ (blk_lt X.out)).trans X.out);have x10 := blk_cell X1.out 0;have x11 := blk_cell X1.out 1;have z1 := blk_lt X1.out;clear hb hq)
    | (go_at_call 14;(refine (galoisref23_Check.calls k a0_0 A0_1 c0_1 l0_1 0 _ (Kd.C_below P0.out (below_step B1.out bel0)) L0.out E2.out).mono ?_);rintro e2 w2 ⟨rfl, hb⟩;have hq := below_step (w := w1) bel0 hb;have B2 := Aside0.mk (below_step B1.out hq);have X2 := Aside0.mk ((hq.block _ (blk_lt X1.out)).trans X1.out);have x20 := blk_cell X2.out 0;have x21 := blk_cell X2.out 1;have z2 := blk_lt X2.out;clear hb hq)
    | (go_at_call 48;(refine (galoisref23_Small.calls k a0_0 A0_1 c0_1 l0_1 t3 _ (Kd.C_below P0.out (below_step B2.out bel0)) L0.out E3.out).mono ?_);rintro e3 w3 ⟨rfl, hb⟩;have hq := below_step (w := w2) bel0 hb;have B3 := Aside0.mk (below_step B2.out hq);have X3 := Aside0.mk ((hq.block _ (blk_lt X2.out)).trans X2.out);have x30 := blk_cell X3.out 0;have x31 := blk_cell X3.out 1;have z3 := blk_lt X3.out;clear hb hq))
   go_ret
   exact ⟨rfl, B3.out⟩
  ·rw [if_neg c2] at h
   obtain rfl := Option.some.inj h
   have n2 : (t2 == 0) = false := beq_eq_false_iff_ne.mpr c2
   have m2 : (t2 != 0) = true := bne_iff_ne.mpr c2
   clear h c2
   go_wp2_with (first
    | (go_at_call 47;(refine (galoisref23_Few.calls k a0_0 A0_1 c0_1 l0_1 true _ (Kd.C_below P0.out (below_step B.out bel0)) L0.out E1.out).mono ?_);rintro e1 w1 ⟨rfl, hb⟩;have hq := below_step (w := (w.alloc (.cells #[.int .i64 a0_0, .slice A0_1 l0_1.length c0_1] 24))) bel0 hb;have B1 := Aside0.mk (below_step B.out hq);have X1 := Aside0.mk ((hq.block _ (blk_lt X.out)).trans X.out);have x10 := blk_cell X1.out 0;have x11 := blk_cell X1.out 1;have z1 := blk_lt X1.out;clear hb hq)
    | (go_at_call 14;(refine (galoisref23_Check.calls k a0_0 A0_1 c0_1 l0_1 t2 _ (Kd.C_below P0.out (below_step B1.out bel0)) L0.out E2.out).mono ?_);rintro e2 w2 ⟨rfl, hb⟩;have hq := below_step (w := w1) bel0 hb;have B2 := Aside0.mk (below_step B1.out hq);have X2 := Aside0.mk ((hq.block _ (blk_lt X1.out)).trans X1.out);have x20 := blk_cell X2.out 0;have x21 := blk_cell X2.out 1;have z2 := blk_lt X2.out;clear hb hq))
   go_ret
   exact ⟨rfl, B2.out⟩
 | false =>
  rw [if_neg (by decide)] at h
  obtain rfl := Option.some.inj h
  clear h
  go_wp2_with (go_at_call 47;(refine (galoisref23_Few.calls k a0_0 A0_1 c0_1 l0_1 false _ (Kd.C_below P0.out (below_step B.out bel0)) L0.out E1.out).mono ?_);rintro e1 w1 ⟨rfl, hb⟩;have hq := below_step (w := (w.alloc (.cells #[.int .i64 a0_0, .slice A0_1 l0_1.length c0_1] 24))) bel0 hb;have B1 := Aside0.mk (below_step B.out hq);have X1 := Aside0.mk ((hq.block _ (blk_lt X.out)).trans X.out);have x10 := blk_cell X1.out 0;have x11 := blk_cell X1.out 1;have z1 := blk_lt X1.out;clear hb hq)
  go_ret
  exact ⟨rfl, B1.out⟩
def galoislaw27_groups.f (k : Nat) (a0_0 : Int) (l0_1 : List (List Int)) (a1_0 : Int) (l1_1 : List (List Int)) : Option ((List (List Int)) × (List (List Int)) × Int) := (galoisref27_Groups.f k a0_0 l0_1 a1_0 l1_1).bind fun bt141 => (some (bt141.1, bt141.2.1, bt141.2.2))
set_option maxHeartbeats 8000000 in
set_option maxRecDepth 100000 in
theorem galoislaw27_groups.calls (k : Nat) (a0_0 : Int) (A0_1 : Option Addr) (c0_1 : Nat) (l0_1 : List (List Int)) (a1_0 : Int) (A1_1 : Option Addr) (c1_1 : Nat) (l1_1 : List (List Int)) (r1 : List (List Int)) (r2 : List (List Int)) (r3 : Int) (w : World) (hr0_1 : Kd.C (Kd.slice 3 (Kd.int .i64)) w A0_1 l0_1.length l0_1) (hc0_1 : l0_1.length ≤ c0_1) (hr1_1 : Kd.C (Kd.slice 3 (Kd.int .i64)) w A1_1 l1_1.length l1_1) (hc1_1 : l1_1.length ≤ c1_1) (h : galoislaw27_groups.f k a0_0 l0_1 a1_0 l1_1 = some (r1, r2, r3)) :
  Calls Try.prog 18 #[.agg #[.int .i64 a0_0, .slice A0_1 l0_1.length c0_1], .agg #[.int .i64 a1_0, .slice A1_1 l1_1.length c1_1]] w fun e w' => ∃ v0_ v1_ : Value, e = .returned (.tuple #[v0_, v1_, .int .i64 r3]) ∧ Kd.S (Kd.slice 3 (Kd.int .i64)) 43 w' w.heap.size (fun k_ => some k_ ≠ (v1_ : Value).ownBlock) v0_ r1 ∧ Kd.S (Kd.slice 3 (Kd.int .i64)) 43 w' w.heap.size (fun k_ => some k_ ≠ (v0_ : Value).ownBlock) v1_ r2 ∧ Below w.heap.size w w' := by
 have hu := Try.underlying24
 have P0 := Aside0.mk hr0_1
 have L0 := Aside0.mk hc0_1
 have P1 := Aside0.mk hr1_1
 have L1 := Aside0.mk hc1_1
 unfold galoislaw27_groups.f at h
 obtain ⟨⟨t1, t2, t3⟩, h1, h⟩ := Option.bind_eq_some_iff.1 h
 obtain ⟨rfl, hh⟩ := Prod.mk.inj (Option.some.inj h)
 obtain ⟨rfl, rfl⟩ := Prod.mk.inj hh
 have E1 := Aside0.mk h1
 have X := Aside0.mk (show ((w.alloc (.cells #[.int .i64 a0_0, .slice A0_1 l0_1.length c0_1] 24)).alloc (.cells #[.int .i64 a1_0, .slice A1_1 l1_1.length c1_1] 24)).heap[w.heap.size]? = some (.cells #[.int .i64 a0_0, .slice A0_1 l0_1.length c0_1] 24) ∧ ((w.alloc (.cells #[.int .i64 a0_0, .slice A0_1 l0_1.length c0_1] 24)).alloc (.cells #[.int .i64 a1_0, .slice A1_1 l1_1.length c1_1] 24)).heap[w.heap.size + 1]? = some (.cells #[.int .i64 a1_0, .slice A1_1 l1_1.length c1_1] 24) from by
  have h1 := blk_new w (.cells #[.int .i64 a0_0, .slice A0_1 l0_1.length c0_1] 24)
  have h2 := blk_new (w.alloc (.cells #[.int .i64 a0_0, .slice A0_1 l0_1.length c0_1] 24)) (.cells #[.int .i64 a1_0, .slice A1_1 l1_1.length c1_1] 24)
  rw [show (w.alloc (.cells #[.int .i64 a0_0, .slice A0_1 l0_1.length c0_1] 24)).heap.size = w.heap.size + 1 by simp] at h2
  exact ⟨((below_alloc (Below.refl _ _) _).block _ (blk_lt h1)).trans h1, h2⟩)
 have B := Aside0.mk (show Below w.heap.size w ((w.alloc (.cells #[.int .i64 a0_0, .slice A0_1 l0_1.length c0_1] 24)).alloc (.cells #[.int .i64 a1_0, .slice A1_1 l1_1.length c1_1] 24)) from below_alloc (below_alloc (Below.refl _ _) _) _)
 clear hr0_1 hc0_1 hr1_1 hc1_1 h1 h hh
 go_enter Try.func18, Try.ntmps18
 go_wp2_with (go_at_call 59;(refine (galoisref27_Groups.calls k a0_0 A0_1 c0_1 l0_1 a1_0 A1_1 c1_1 l1_1 t1 t2 t3 _ (Kd.C_below P0.out (below_step B.out bel0)) L0.out (Kd.C_below P1.out (below_step B.out bel0)) L1.out E1.out).mono ?_);rintro e1 w1 ⟨va, vb, rfl, hsa, hsb, hb⟩;have SA := Aside0.mk hsa;have SB := Aside0.mk hsb;clear hsa hsb;have hq := below_step (w := ((w.alloc (.cells #[.int .i64 a0_0, .slice A0_1 l0_1.length c0_1] 24)).alloc (.cells #[.int .i64 a1_0, .slice A1_1 l1_1.length c1_1] 24))) bel0 hb;have B1 := Aside0.mk (below_step B.out hq);have X1 := Aside0.mk (And.intro ((hq.block _ (blk_lt X.out.1)).trans X.out.1) ((hq.block _ (blk_lt X.out.2)).trans X.out.2));have x10 := blk_cell X1.out.1 0;have x11 := blk_cell X1.out.1 1;have y10 := blk_cell X1.out.2 0;have y11 := blk_cell X1.out.2 1;have z1 := blk_lt X1.out.1;have v1 := blk_lt X1.out.2;clear hb hq)
 go_ret3
 exact ⟨_, _, rfl, Kd.S_lower SA.out B.out.size, Kd.S_lower SB.out B.out.size, B1.out⟩
abbrev galoisref27_Representatives.f := @Go.Proofs.Ytaaaljifclecnaa.Bs.galoisref27_Representatives.f
abbrev galoisref27_Representatives.mono := @Go.Proofs.Ytaaaljifclecnaa.Bs.galoisref27_Representatives.mono
abbrev galoisref27_Representatives.calls := @Go.Proofs.Ytaaaljifclecnaa.Bs.galoisref27_Representatives.calls
abbrev galoisref27_Find.f := @Go.Proofs.Ytaaaljifclecnaa.Bs.galoisref27_Find.f
abbrev galoisref27_Find.mono := @Go.Proofs.Ytaaaljifclecnaa.Bs.galoisref27_Find.mono
abbrev galoisref27_Find.calls := @Go.Proofs.Ytaaaljifclecnaa.Bs.galoisref27_Find.calls
end Go.Proofs.Ytaaaljifclecnaa.PGp
