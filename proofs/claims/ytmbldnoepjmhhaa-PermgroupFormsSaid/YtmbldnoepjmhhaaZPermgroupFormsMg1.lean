/- Texts of this claim put together (wip/tools/merge.py). -/
import Derived.Test.YtmbldnoepjmhhaaZPermgroupFormsPBsx1
import Derived.Test.YtmbldnoepjmhhaaZPermgroupFormsMg0
import Derived.Test.YtmbldnoepjmhhaaZPermgroupFormsPRfx0
import Derived.Test.YtmbldnoepjmhhaaZPermgroupFormsPRfx1
import Derived.Test.YtmbldnoepjmhhaaZPermgroupFormsPRfx2
import Derived.Test.YtmbldnoepjmhhaaZPermgroupFormsPRfx3
import Derived.Test.YtmbldnoepjmhhaaZPermgroupFormsPRfx4
import Derived.Test.YtmbldnoepjmhhaaZPermgroupFormsPAllx0
import Derived.Test.YtmbldnoepjmhhaaZPermgroupFormsPBsx0
import Derived.Test.YtmbldnoepjmhhaaZPermgroupFormsPBsx2
set_option linter.unusedVariables false
set_option linter.unusedSimpArgs false
section
/- The functions Mul, Inv and Identity of package bsgs: their contracts in the words of the chain. -/
namespace Go.Proofs.Ytmbldnoepjmhhaa.Bs
open Go.RowKit Go.Proofs.YtmbldnoepjmhhaaW.PrintWords Go.Proofs.YtmbldnoepjmhhaaW.PrintLast Go.Proofs.YtmbldnoepjmhhaaW.PrintMore Go.Proofs.Ytmbldnoepjmhhaa.Plain Go.Proofs.Ytmbldnoepjmhhaa.PBs
theorem mulA_is : ∀ (a b r : List Int), mulA a b = some r → r = mulL a b ∧ ∀ x ∈ a, 0 ≤ x ∧ x < (b.length : Int)
  | [], _, r, h => by
    obtain rfl := Option.some.inj h
    exact ⟨rfl, by simp⟩
  | x :: a, b, r, h => by
    rw [mulA] at h
    obtain ⟨y, hy, h⟩ := Option.bind_eq_some_iff.1 h
    obtain ⟨r', hr, h⟩ := Option.bind_eq_some_iff.1 h
    obtain rfl := Option.some.inj h
    obtain ⟨rfl, h2⟩ := mulA_is a b r' hr
    unfold at_ at hy
    split at hy
    · rename_i h0
      obtain ⟨hlt, e⟩ := List.getElem?_eq_some_iff.1 hy
      refine ⟨?_, fun z hz => ?_⟩
      · unfold mulL
        rw [List.map_cons]
        congr 1
        show y = b.getD x.toNat 0
        rw [List.getD_eq_getElem?_getD, hy]; rfl
      · rcases List.mem_cons.1 hz with rfl | hz
        · omega
        · exact h2 z hz
    · cases hy
theorem mul_loop (a b : List Int) (hl : a.length < 35184372088832) (hr : ∀ x ∈ a, 0 ≤ x ∧ x < (b.length : Int)) : ∀ (d i : Nat), a.length - i = d → i ≤ a.length →
    Ev (fun k => bsgs_Mul.l0 k b ((mulL a b).take i ++ (List.replicate a.length 0).drop i) a (a.length : Int) (i : Int)) (mulL a b) := by
  have hm : (mulL a b).length = a.length := by simp [mulL]
  intro d
  induction d with
  | zero =>
    intro i hd hi
    have e : i = (mulL a b).length := by omega
    refine Ev.step (f := fun _ => some (mulL a b)) (fun k => ?_) (Ev.now _)
    simp only [bsgs_Mul.l0]
    rw [if_neg (by omega), e, fill_end _ _ (by simp [hm])]
  | succ d ih =>
    intro i hd hi
    have hlt : i < a.length := by omega
    have hx := hr a[i] (List.getElem_mem hlt)
    refine Ev.step (f := fun k => bsgs_Mul.l0 k b ((mulL a b).take (i + 1) ++ (List.replicate a.length 0).drop (i + 1)) a (a.length : Int) ((i + 1 : Nat) : Int)) (fun k => ?_) (ih (i + 1) (by omega) (by omega))
    simp only [bsgs_Mul.l0]
    rw [if_pos (by omega), if_pos (by omega), if_pos (by omega), rd_get a i hlt, if_pos hx.1, if_pos hx.2, if_pos (by rw [List.length_append, List.length_take, List.length_drop, List.length_replicate]; omega), wrap_nat (by omega)]
    rw [Int.toNat_natCast, set_fill (mulL a b) (List.replicate a.length 0) i (rd b a[i]) (by omega) (by simp [hm]) (by simp [mulL, List.getElem?_eq_getElem hlt])]
theorem mul_ev {a b r : List Int} (h : mulO a b = some r) : ∃ k, bsgs_Mul.f k a b = some r := by
  unfold mulO at h
  split at h
  · rename_i hl
    obtain ⟨rfl, hr⟩ := mulA_is a b r h
    apply Ev.rounds
    refine Ev.congr (f := fun k => bsgs_Mul.l0 k b ((mulL a b).take 0 ++ (List.replicate a.length 0).drop 0) a (a.length : Int) ((0 : Nat) : Int)) (fun k => ?_) (mul_loop a b (by omega) hr _ 0 rfl (Nat.zero_le _))
    unfold bsgs_Mul.f
    rw [if_pos (by omega), if_pos (by omega)]
    simp
  · cases h
theorem inv_loop (a : List Int) (hl : a.length ≤ 1000) (hr : ∀ x ∈ a, 0 ≤ x ∧ x < (a.length : Int)) : ∀ (d i : Nat) (out : List Int), a.length - i = d → i ≤ a.length → out.length = a.length →
    Ev (fun k => bsgs_Inv.l0 k out a (a.length : Int) (i : Int)) (invFill (a.drop i) i out) := by
  intro d
  induction d with
  | zero =>
    intro i out hd hi ho
    refine Ev.step (f := fun _ => some out) (fun k => ?_) ?_
    · simp only [bsgs_Inv.l0]
      rw [if_neg (by omega)]
    · rw [List.drop_eq_nil_of_le (by omega)]; exact Ev.now _
  | succ d ih =>
    intro i out hd hi ho
    have hlt : i < a.length := by omega
    have hx := hr a[i] (List.getElem_mem hlt)
    rw [List.drop_eq_getElem_cons hlt, invFill]
    refine Ev.step (f := fun k => bsgs_Inv.l0 k (out.set a[i].toNat (i : Int)) a (a.length : Int) ((i + 1 : Nat) : Int)) (fun k => ?_) (ih (i + 1) (out.set a[i].toNat (i : Int)) (by omega) (by omega) (by rw [List.length_set]; exact ho))
    simp only [bsgs_Inv.l0]
    rw [if_pos (by omega), if_pos (by omega), if_pos (by omega), rd_get a i hlt, if_pos hx.1, if_pos (by omega), wrap_nat (by omega)]
theorem inv_ev {a r : List Int} (h : invO a = some r) : ∃ k, bsgs_Inv.f k a = some r := by
  unfold invO at h
  split at h
  · rename_i hl
    split at h
    · rename_i hr
      obtain rfl := Option.some.inj h
      apply Ev.rounds
      refine Ev.congr (fun k => ?_) (inv_loop a hl (fun x hx => by
        have := List.all_eq_true.1 hr x hx
        simpa using this) _ 0 (List.replicate a.length 0) rfl (Nat.zero_le _) (by simp))
      unfold bsgs_Inv.f
      rw [if_pos (by omega), if_pos (by omega), Int.toNat_natCast]
      rfl
    · cases h
  · cases h
theorem id_loop (n : Nat) (hl : n ≤ 35184372088832) : ∀ (d i : Nat), n - i = d → i ≤ n →
    Ev (fun k => bsgs_Identity.l0 k ((lf (fun i => i) n).take i ++ (List.replicate n 0).drop i) (n : Int) (i : Int)) (lf (fun i => i) n) := by
  have hm : (lf (fun i => i) n).length = n := lf_length _ _
  intro d
  induction d with
  | zero =>
    intro i hd hi
    have e : i = (lf (fun i => i) n).length := by omega
    refine Ev.step (f := fun _ => some (lf (fun i => i) n)) (fun k => ?_) (Ev.now _)
    simp only [bsgs_Identity.l0]
    rw [if_neg (by omega), e, fill_end _ _ (by simp [hm])]
  | succ d ih =>
    intro i hd hi
    refine Ev.step (f := fun k => bsgs_Identity.l0 k ((lf (fun i => i) n).take (i + 1) ++ (List.replicate n 0).drop (i + 1)) (n : Int) ((i + 1 : Nat) : Int)) (fun k => ?_) (ih (i + 1) (by omega) (by omega))
    simp only [bsgs_Identity.l0]
    rw [if_pos (by omega), if_pos (by omega), if_pos (by rw [List.length_append, List.length_take, List.length_drop, List.length_replicate]; omega), wrap_nat (by omega)]
    rw [Int.toNat_natCast, set_fill (lf (fun i => i) n) (List.replicate n 0) i (i : Int) (by omega) (by simp [hm]) (lf_get? _ _ _ (by omega))]
theorem id_ev (n : Nat) (hl : n ≤ 1000) : ∃ k, bsgs_Identity.f k (n : Int) = some (idL n) := by
  apply Ev.rounds
  refine Ev.congr (f := fun k => bsgs_Identity.l0 k ((lf (fun i => i) n).take 0 ++ (List.replicate n 0).drop 0) (n : Int) ((0 : Nat) : Int)) (fun k => ?_) (id_loop n (by omega) _ 0 rfl (Nat.zero_le _))
  unfold bsgs_Identity.f
  rw [if_pos (by omega), if_pos (by omega)]
  simp
def PermAt (w : World) (v : Value) (p : List Int) : Prop := ∃ A c, v = .slice A p.length c ∧ p.length ≤ c ∧ Kd.C (Kd.int .i64) w A p.length p
theorem PermAt.below {w w' : World} {v : Value} {p : List Int} (h : PermAt w v p) (hb : Below w.heap.size w w') : PermAt w' v p := by
  obtain ⟨A, c, e, hc, hk⟩ := h
  exact ⟨A, c, e, hc, Kd.C_below hk hb⟩
theorem PermIn.at {ρ : Nat → Nat} {w : World} {v : Value} {p : List Int} (h : PermIn ρ w v p) : PermAt w v p := h.reads
theorem PermAt.of_R {e base : Nat} {ok : Nat → Prop} {w : World} {v : Value} {p : List Int} (h : Kd.R (Kd.int .i64) e w base ok v p) : PermAt w v p := Kd.R_reads h
theorem mul_any {a b r : List Int} {v1 v2 : Value} {w : World} (h : mulO a b = some r) (h1 : PermAt w v1 a) (h2 : PermAt w v2 b) :
    Calls Try.prog 131 #[v1, v2] w fun e w' => ∃ v, e = .returned v ∧ Kd.R (Kd.int .i64) 3 w' w.heap.size (fun _ => True) v r ∧ Below w.heap.size w w' := by
  obtain ⟨k, hk⟩ := mul_ev h
  obtain ⟨A1, c1, rfl, hc1, hC1⟩ := h1
  obtain ⟨A2, c2, rfl, hc2, hC2⟩ := h2
  exact bsgs_Mul.calls k A1 c1 a A2 c2 b r w hC1 hc1 hC2 hc2 hk
theorem inv_any {a r : List Int} {v1 : Value} {w : World} (h : invO a = some r) (h1 : PermAt w v1 a) :
    Calls Try.prog 135 #[v1] w fun e w' => ∃ v, e = .returned v ∧ Kd.R (Kd.int .i64) 3 w' w.heap.size (fun _ => True) v r ∧ Below w.heap.size w w' := by
  obtain ⟨k, hk⟩ := inv_ev h
  obtain ⟨A1, c1, rfl, hc1, hC1⟩ := h1
  exact bsgs_Inv.calls k A1 c1 a r w hC1 hc1 hk
theorem id_any (n : Nat) (hl : n ≤ 1000) (w : World) :
    Calls Try.prog 102 #[.int .i64 (n : Int)] w fun e w' => ∃ v, e = .returned v ∧ Kd.R (Kd.int .i64) 3 w' w.heap.size (fun _ => True) v (idL n) ∧ Below w.heap.size w w' := by
  obtain ⟨k, hk⟩ := id_ev n hl
  exact bsgs_Identity.calls k (n : Int) (idL n) w hk
end Go.Proofs.Ytmbldnoepjmhhaa.Bs
end
section
/- The walk of (*Chain).sift and of Contains. -/
namespace Go.Proofs.Ytmbldnoepjmhhaa.Bs
open Go.RowKit Go.Proofs.YtmbldnoepjmhhaaW.PrintWords Go.Proofs.YtmbldnoepjmhhaaW.PrintLast Go.Proofs.YtmbldnoepjmhhaaW.PrintMore Go.Proofs.Ytmbldnoepjmhhaa.Plain Go.Proofs.Ytmbldnoepjmhhaa.PBs
attribute [local go_sem] max2_int min2_int max_two min_two max_three min_three max_four min_four
theorem word_some {C : Ch} {k : Nat} {x : Int} {o : Option (List Int)} (h : C.word k x = some o) : 0 ≤ x ∧ ∃ L, C.levels[k]? = some L ∧ L.words[x.toNat]? = some o := by
  unfold Ch.word at h
  split at h
  · rename_i h0
    obtain ⟨L, hL, h⟩ := Option.bind_eq_some_iff.1 h
    exact ⟨h0, L, hL, h⟩
  · cases h
theorem LevAt.word {ρ : Nat → Nat} {w : World} {base n k : Nat} {L : Lv} {D : LD} (h : LevAt ρ w base n k L D) {x : Nat} {o : Option (List Int)} (hx : L.words[x]? = some o) :
    x < n ∧ ∃ v : Sv, w.cell? ⟨D.bw, x, none⟩ = some (svE v) ∧ w.frozen? ⟨D.bw, x, none⟩ = false ∧ WordIn ρ w (svE v) o := by
  have hlt : x < n := by rw [← h.wlen]; exact (List.getElem?_eq_some_iff.1 hx).1
  have hw : x < D.ws.length := by rw [h.wslen]; exact hlt
  obtain ⟨hc, hf⟩ := Kd.R_celln (none, 0, 0) h.wrd (x : Int) (by omega) (by omega)
  rw [Int.toNat_natCast] at hc hf
  have e : rdOf (none, 0, 0) D.ws (x : Int) = D.ws[x] := by
    unfold rdOf
    rw [Int.toNat_natCast, List.getD_eq_getElem?_getD, List.getElem?_eq_getElem hw]; rfl
  rw [e] at hc
  exact ⟨hlt, D.ws[x], hc, hf, h.wp x _ o (List.getElem?_eq_getElem hw) hx⟩
theorem wordIn_none {ρ : Nat → Nat} {w : World} {v : Value} (h : WordIn ρ w v none) : v = .slice none 0 0 := h
theorem PermIn.addr {ρ : Nat → Nat} {w : World} {v : Value} {p : List Int} (h : PermIn ρ w v p) (hp : 0 < p.length) : ∃ a c, v = .slice (some a) p.length c ∧ p.length ≤ c ∧ Kd.C (Kd.int .i64) w (some a) p.length p := by
  obtain ⟨A, c, e, hc, hC⟩ := h.reads
  obtain ⟨ad, eA, _⟩ := Kd.at_int hC (0 : Int) (Int.le_refl _) (by omega)
  subst eA
  exact ⟨ad, c, e, hc, hC⟩
set_option maxHeartbeats 8000000 in
set_option maxRecDepth 100000 in
theorem sift_any (q : Nat) (C : Ch) (p p' : List Int) (k k' : Nat) (w : World) (ρ : Nat → Nat) (base c capL : Nat) (la : Option Addr) (d : Nat → LD) (v : Value) (hR : ChainAt ρ w base c la capL C d) (hp : PermIn ρ w v p) (hk : k ≤ 20) (h : sift q C p k = some (p', k')) :
    Calls Try.prog 126 #[.pointer (some ⟨c, 0, none⟩), v, .int .i64 (k : Int)] w fun e w' => ∃ v', e = .returned (.tuple #[v', .int .i64 (k' : Int)]) ∧ PermIn ρ w' v' p' ∧ Below w.heap.size w w' := by
  have hnil : ∀ w : World, (binOp .eql 49 (.slice none 0 0) (.slice none 0 0)).run Try.prog w = .ok (.bool true) w := fun w => by kernel_rfl
  have hsome : ∀ (w : World) (a : Addr) (n c : Nat), (binOp .eql 49 (.slice (some a) n c) (.slice none 0 0)).run Try.prog w = .ok (.bool false) w := fun w a n c => by kernel_rfl
  have HP := Aside0.mk hp
  have HR := Aside0.mk hR
  obtain ⟨A, cp, rfl, hcp, hkp⟩ := hp
  have H' := Aside0.mk h
  clear h hcp hkp hR
  go_enter Try.func126, Try.ntmps126
  go_wp2
  go_loopg [1, 8] q (fun kq v1 v8 w' => ∃ (p_ : List Int) (k_ : Nat), v8 = .int .i64 (k_ : Int) ∧ Aside0 (PermIn ρ w' v1 p_) ∧ Aside0 (sift kq C p_ k_ = some (p', k')) ∧ Aside0 (kq ≤ q) ∧ Aside0 (k_ ≤ 20) ∧ Aside0 (Below w.heap.size w w'))
  case atStart => exact ⟨p, k, (by first | rfl | (simp; done) | (simp [*]; done)), HP, H', ⟨Nat.le_refl _⟩, ⟨hk⟩, ⟨Below.refl _ _⟩⟩
  case round =>
    clear H' HP
    obtain ⟨p_, k_, rfl, HP, HA, HK1, HK, HB⟩ := hrel
    cases gk with
    | zero => exact absurd HA.out (by simp [sift])
    | succ q1 =>
      have H := HA.out
      clear HA
      have R := HR.out.below HB.out
      have hn := R.hn
      have hl := R.hl
      have hlcap := R.hcap
      simp only [sift] at H
      by_cases c1 : k_ < C.n
      · rw [if_pos c1] at H
        have c1b0 : decide ((k_ : Int) < (C.n : Int)) = true := decide_eq_true (by omega)
        obtain ⟨bls, ela, _, hcl⟩ := R.ls (by omega)
        subst ela
        have hlev := hcl k_ c1
        obtain ⟨x, hx, H⟩ := Option.bind_eq_some_iff.1 H
        obtain ⟨o, hw, H⟩ := Option.bind_eq_some_iff.1 H
        obtain ⟨x0, L, hL, ho⟩ := word_some hw
        have LV := Aside0.mk (R.lv k_ L hL)
        have hrow := LV.out.c2
        obtain ⟨X, rfl⟩ : ∃ X : Nat, x = (X : Int) := ⟨x.toNat, by omega⟩
        rw [Int.toNat_natCast] at ho
        obtain ⟨hxn, wv, hv, _, hwd⟩ := LV.out.word ho
        obtain ⟨hkp, hxe⟩ := List.getElem?_eq_some_iff.1 hx
        obtain ⟨A1, cp1, rfl, hcp1, hC1⟩ := HP.out.reads
        have p1 : (0 : Int) ≤ (k_ : Int) := by omega
        have q1' : (k_ : Int) < (p_.length : Int) := by omega
        obtain ⟨ad1, e1, hcell1⟩ := Kd.at_int hC1 (k_ : Int) p1 q1'
        subst e1
        have hrd : rd p_ (k_ : Int) = (X : Int) := by
          show p_.getD k_ 0 = _
          rw [List.getD_eq_getElem?_getD, hx]; rfl
        rw [hrd, Int.toNat_natCast] at hcell1
        have t1 : ((k_ : Int) < (C.n : Int)) = True := eq_true (by omega)
        have t2 : ((k_ : Int) < (p_.length : Int)) = True := eq_true (by omega)
        have t3 : ((X : Int) < (C.n : Int)) = True := eq_true (by omega)
        have t4 : (0 ≤ (k_ : Int)) = True := eq_true (by omega)
        have t5 : (0 ≤ (X : Int)) = True := eq_true (by omega)
        cases o with
        | none =>
          rw [wordIn_none hwd] at hv
          obtain ⟨rfl, rfl⟩ := Prod.mk.inj (Option.some.inj H)
          clear R hwd hcl
          go_wp2
          go_quiet (fail)
          go_wp2
          repeat (go_quiet (fail); try go_wp2)
          go_ret2
          exact ⟨_, rfl, HP.out.move (fun b hb hr => ⟨hr, rfl⟩), bel HB.out⟩
        | some wd =>
          obtain ⟨aw, cw, ew, hcw, hCw⟩ := hwd.1.addr hwd.2
          rw [ew] at hv
          have wk : wrap64 ((k_ : Int) + 1) = ((k_ + 1 : Nat) : Int) := (IntWalk.wrap64_in _ ⟨by omega, by have := HK.out; omega⟩).trans (by omega)
          have HSM := Aside0.mk R.small
          simp only at H
          by_cases c2 : (X : Int) = (k_ : Int)
          · rw [if_pos c2] at H
            have c2b0 : ((X : Int) == (k_ : Int)) = true := beq_iff_eq.mpr c2
            have c2b1 : ((X : Int) != (k_ : Int)) = false := bne_eq_false_iff_eq.mpr c2
            have H' := Aside0.mk H
            clear H c2 R hwd hcl
            go_wp2
            repeat (go_quiet (fail); try go_wp2)
            go_roundg q1
            case measure => have := HK1.out; omega
            case rel => exact ⟨p_, k_ + 1, (by first | rfl | (rw [wk]; done) | (simp [wk]; done)), ⟨HP.out.move (fun b hb hr => ⟨hr, rfl⟩)⟩, H', ⟨Nat.le_of_succ_le HK1.out⟩, ⟨Nat.le_trans (Nat.succ_le_of_lt c1) HSM.out⟩, ⟨bel HB.out⟩⟩
          · rw [if_neg c2] at H
            have c2b0 : ((X : Int) == (k_ : Int)) = false := beq_eq_false_iff_ne.mpr c2
            have c2b1 : ((X : Int) != (k_ : Int)) = true := bne_iff_ne.mpr c2
            clear c2
            replace H := Option.bind_eq_some_iff.mp H
            obtain ⟨iw, A10, H⟩ := H
            replace H := Option.bind_eq_some_iff.mp H
            obtain ⟨p2, A20, H⟩ := H
            have A1 := Aside0.mk A10
            have A2 := Aside0.mk A20
            have H' := Aside0.mk H
            have HRR := Aside0.mk R
            clear H A10 A20 R hwd hcl
            go_wp2
            repeat (go_quiet (fail); try go_wp2_with (first
              | (go_at_call 135; (refine (inv_any A1.out ⟨_, _, rfl, hcw, ?s1⟩).mono ?_); (case s1 => exact hCw); rintro e w5 ⟨vi, rfl, hri, hb5⟩; have HI5 := Aside0.mk (PermAt.of_R hri); obtain ⟨Ai, ci, rfl⟩ := Kd.R_slice hri; have HP5 := Aside0.mk (PermAt.below (w := wr.drewN _) ⟨_, _, rfl, hcp1, hC1⟩ hb5); have HB5 := Aside0.mk (below_step (bel HB.out) hb5))
              | (go_at_call 131; (refine (mul_any A2.out HP5.out HI5.out).mono ?_); rintro e w6 ⟨v6, rfl, hr6, hb6⟩; have HB6 := Aside0.mk (below_step (bel HB5.out) hb6); have HP6 := Aside0.mk ((HR.out.below HB5.out).perm hr6); obtain ⟨A6, c6, rfl⟩ := Kd.R_slice hr6)))
            go_roundg q1
            case measure => exact Nat.lt_succ_self _
            case rel => exact ⟨p2, k_ + 1, (by first | rfl | (rw [wk]; done) | (simp [wk]; done)), ⟨HP6.out⟩, H', ⟨Nat.le_of_succ_le HK1.out⟩, ⟨Nat.le_trans (Nat.succ_le_of_lt c1) HSM.out⟩, HB6⟩
      · rw [if_neg c1] at H
        have c1b0 : decide ((k_ : Int) < (C.n : Int)) = false := decide_eq_false (by omega)
        obtain ⟨rfl, rfl⟩ := Prod.mk.inj (Option.some.inj H)
        clear R
        go_wp2
        repeat (go_quiet (fail); try go_wp2)
        go_ret2
        exact ⟨_, rfl, HP.out.move (fun b hb hr => ⟨hr, rfl⟩), bel HB.out⟩
set_option maxHeartbeats 8000000 in
set_option maxRecDepth 100000 in
theorem contains_any (C : Ch) (p : List Int) (r : Bool) (w : World) (ρ : Nat → Nat) (base c capL : Nat) (la : Option Addr) (d : Nat → LD) (v : Value) (hR : ChainAt ρ w base c la capL C d) (hp : PermIn ρ w v p) (h : C.contains p = some r) :
    Calls Try.prog 95 #[.pointer (some ⟨c, 0, none⟩), v] w fun e w' => e = .returned (.bool r) ∧ Below w.heap.size w w' := by
  unfold Ch.contains at h
  replace h := Option.bind_eq_some_iff.mp h
  obtain ⟨⟨p', k'⟩, A10, H⟩ := h
  obtain rfl := Option.some.inj H
  have A1 := Aside0.mk A10
  clear A10 H
  have hd : decide (k' = C.n) = ((k' : Int) == (C.n : Int)) := by
    rw [Bool.eq_iff_iff, decide_eq_true_iff, beq_iff_eq]
    omega
  have HP := Aside0.mk hp
  have HR := Aside0.mk hR
  have hn0 := hR.hn
  obtain ⟨A, cp, rfl, hcp, hkp⟩ := hp
  clear hcp hkp hR
  go_enter Try.func95, Try.ntmps95
  go_wp2_with (go_at_call 126; (refine (sift_any 30 C p p' 0 k' _ ρ base c capL la d _ HR.out HP.out (Nat.zero_le _) A1.out).mono ?_); rintro e w2 ⟨v2, rfl, hp2, hb2⟩; have hn2 := cell_move hn0 (fun hlt => hb2.block _ hlt); have HB2 := Aside0.mk hb2)
  repeat (go_quiet (fail); try go_wp2)
  go_ret
  exact ⟨by rw [hd]; rfl, bel HB2.out⟩
end Go.Proofs.Ytmbldnoepjmhhaa.Bs
end
section
/- slices.Clone of whole numbers. -/
namespace Go.Proofs.Ytmbldnoepjmhhaa.Bs
open Go.RowKit Go.Proofs.YtmbldnoepjmhhaaW.PrintWords Go.Proofs.YtmbldnoepjmhhaaW.PrintLast Go.Proofs.YtmbldnoepjmhhaaW.PrintMore Go.Proofs.Ytmbldnoepjmhhaa.Plain Go.Proofs.Ytmbldnoepjmhhaa.PBs
attribute [local go_sem] max2_int min2_int max_two min_two max_three min_three max_four min_four
theorem int_info3 : (Try.prog.info? 3).map (fun i => (i.zero, i.size, i.bytes)) = some (some (.int .i64 0), 1, 8) := by kernel_rfl
set_option maxHeartbeats 4000000 in
set_option maxRecDepth 100000 in
theorem clone_any {p : List Int} {v : Value} {w : World} (h : PermAt w v p) (hl : p.length ≤ 1000000) :
    Calls Try.prog 122 #[v] w fun e w' => ∃ v', e = .returned v' ∧ Kd.R (Kd.int .i64) 3 w' w.heap.size (fun _ => True) v' p ∧ Below w.heap.size w w' := by
  have hnil : ∀ w : World, (binOp .eql 25 (.slice none 0 0) (.slice none 0 0)).run Try.prog w = .ok (.bool true) w := fun w => by kernel_rfl
  have hsome : ∀ (w : World) (a : Addr) (n c : Nat), (binOp .eql 25 (.slice (some a) n c) (.slice none 0 0)).run Try.prog w = .ok (.bool false) w := fun w a n c => by kernel_rfl
  obtain ⟨A, c, rfl, hc, hC⟩ := h
  have HB := Aside0.mk (Below.refl w.heap.size w)
  have HC := Aside0.mk hC
  have HL := Aside0.mk hl
  cases A with
  | none =>
    have h0 : p.length = 0 := by
      apply Classical.byContradiction
      intro hne
      obtain ⟨ad, e, _⟩ := hC.2.2 (by omega)
      cases e
    obtain rfl := List.eq_nil_of_length_eq_zero h0
    clear hC hl h0
    by_cases hc0 : c = 0
    · subst hc0
      go_enter Try.func122, Try.ntmps122
      go_wp2
      go_ret
      exact ⟨_, rfl, Kd.R_nil _ _ _ _ _, Below.refl _ _⟩
    · have hodd : ∀ (w : World) (m k : Nat), (binOp .eql 25 (.slice none m k) (.slice none 0 0)).run Try.prog w = .ok (.bool true) w := fun w m k => by kernel_rfl
      go_enter Try.func122, Try.ntmps122
      go_wp2
      go_ret
      exact ⟨_, rfl, Kd.R_nil _ _ _ _ _, Below.refl _ _⟩
  | some a =>
    clear hC hl hc
    go_enter Try.func122, Try.ntmps122
    go_wp2_with (first
      | ((with_reducible refine gate_dst (N := 5) rfl ?_); refine Kd.R_lit (Kd.int .i64) _ 3 ?hg (N := 5) ?hd (xs := ([] : List Int)) (inner := []) (ok := fun _ => True) (okp := fun _ => True) ?hr ?hp (fun _ hk => hk) trivial (Below.refl _ _) (Nat.le_refl _) (by simp) ?_; (case hd => rfl); (case hg => rfl); (case hr => first | (go_simp; done) | (go_simp; rfl)); (case hp => exact (Reps.none _ _)); intro v1 w1 ho1 hb1 hg1 hn1; have HO1 := Aside0.mk ho1; have HB1 := Aside0.mk hb1; have HC1 := Aside0.mk (Kd.C_below HC.out hb1); clear ho1 hb1 hg1 hn1)
      | (at_builtin; refine Kd.R_append_rows (Kd.int .i64) (w0 := w) w.heap.size rfl (.tmp 5) (.tmp 6) 25 3 (.int .i64 0) 8 rfl Try.underlying25 int_info3 rfl (by decide) (by omega) v1 [] p (some a) p.length c (fun _ => True) (fun _ => False) rfl rfl ?aO ?aR (fun _ _ h => h) (fun _ h => h.elim) ?aF ?aB ?aS ?aL ?_; (case aO => exact HO1.out); (case aR => exact HC1.out); (case aF => exact fun _ _ => trivial); (case aB => exact HB1.out); (case aS => exact HB1.out.size); (case aL => have := HL.out; simp only [List.length_nil]; omega); intro v2 w2 ho2 hb2 hg2 hn2; have HO2 := Aside0.mk ho2; have HB2 := Aside0.mk hb2; obtain ⟨A2, c2, e2⟩ := Kd.R_slice ho2; subst e2; clear ho2 hb2 hg2 hn2))
    go_ret
    exact ⟨_, rfl, HO2.out, HB2.out⟩
end Go.Proofs.Ytmbldnoepjmhhaa.Bs
end
section
/- The walks of (*Chain).reach and insert, and of Add. -/
namespace Go.Proofs.Ytmbldnoepjmhhaa.Bs
open Go.RowKit Go.Proofs.YtmbldnoepjmhhaaW.PrintWords Go.Proofs.YtmbldnoepjmhhaaW.PrintLast Go.Proofs.YtmbldnoepjmhhaaW.PrintMore Go.Proofs.Ytmbldnoepjmhhaa.Plain Go.Proofs.Ytmbldnoepjmhhaa.PBs
attribute [local go_sem] max2_int min2_int max_two min_two max_three min_three max_four min_four
theorem perm_info : (Try.prog.info? 49).map (fun i => (i.zero, i.size, i.bytes)) = some (some (.slice none 0 0), 1, 24) := by kernel_rfl
def Grew (base c capL : Nat) (la : Option Addr) (ρ : Nat → Nat) (w : World) (d : Nat → LD) (C' : Ch) (e : Ending) (w' : World) : Prop :=
  e = .returned (.tuple #[]) ∧ ∃ ρ' d', ChainAt ρ' w' base c la capL C' d' ∧ (∀ j, (d' j).bl = (d j).bl) ∧ Step base ρ ρ' w w'
theorem LevAt.gen_at {ρ : Nat → Nat} {w : World} {base n k : Nat} {L : Lv} {D : LD} (h : LevAt ρ w base n k L D) {i : Nat} {g : List Int} (hx : L.gens[i]? = some g) :
    ∃ b cg, w.cell? ⟨D.bl, 3, none⟩ = some (.slice (some ⟨b, 0, none⟩) L.gens.length cg) ∧ L.gens.length ≤ cg ∧ ∃ v : Sv, w.cell? ⟨b, i, none⟩ = some (svE v) ∧ PermIn ρ w (svE v) g := by
  have hlt : i < L.gens.length := (List.getElem?_eq_some_iff.1 hx).1
  have hi : i < D.gs.length := by rw [h.glen]; exact hlt
  obtain ⟨A, cg, e, hle, hC⟩ := Kd.R_reads h.gen
  obtain ⟨ad, eA, _⟩ := hC.2.2 (by omega)
  subst eA
  have hg := h.gen
  rw [e] at hg
  obtain ⟨b, rfl⟩ := Kd.R_head hg
  obtain ⟨hc, _⟩ := Kd.R_celln (none, 0, 0) hg (i : Int) (by omega) (by omega)
  rw [Int.toNat_natCast] at hc
  have e2 : rdOf (none, 0, 0) D.gs (i : Int) = D.gs[i] := by
    unfold rdOf
    rw [Int.toNat_natCast, List.getD_eq_getElem?_getD, List.getElem?_eq_getElem hi]; rfl
  rw [e2] at hc
  refine ⟨b, cg, ?_, by rw [← h.glen]; exact hle, D.gs[i], hc, h.gp i _ g (List.getElem?_eq_getElem hi) hx⟩
  rw [h.c3, e, h.glen]
theorem LevAt.gens_len {ρ : Nat → Nat} {w : World} {base n k : Nat} {L : Lv} {D : LD} (h : LevAt ρ w base n k L D) : ∃ A cg, w.cell? ⟨D.bl, 3, none⟩ = some (.slice A L.gens.length cg) ∧ L.gens.length ≤ cg := by
  obtain ⟨A, cg, e, hle, _⟩ := Kd.R_reads h.gen
  exact ⟨A, cg, by rw [h.c3, e, h.glen], by rw [← h.glen]; exact hle⟩
set_option maxHeartbeats 8000000 in
set_option maxRecDepth 100000 in
theorem reach_any (ins : Ch → Nat → List Int → Option Ch) (base c capL : Nat) (la : Option Addr)
    (hins : ∀ (C C' : Ch) (k : Nat) (g : List Int) (w : World) (ρ : Nat → Nat) (d : Nat → LD) (v : Value), ChainAt ρ w base c la capL C d → base ≤ w.heap.size → PermIn ρ w v g → k ≤ 20 → ins C k g = some C' →
      Calls Try.prog 152 #[.pointer (some ⟨c, 0, none⟩), .int .i64 (k : Int), v] w (Grew base c capL la ρ w d C')) :
    ∀ (q : Nat) (C C' : Ch) (k : Nat) (p : List Int) (w : World) (ρ : Nat → Nat) (d : Nat → LD) (v : Value), ChainAt ρ w base c la capL C d → base ≤ w.heap.size → PermIn ρ w v p → reach ins q C k p = some C' →
      Calls Try.prog 173 #[.pointer (some ⟨c, 0, none⟩), .int .i64 (k : Int), v] w (Grew base c capL la ρ w d C') := by
  have hnil : ∀ w : World, (binOp .eql 49 (.slice none 0 0) (.slice none 0 0)).run Try.prog w = .ok (.bool true) w := fun w => by kernel_rfl
  have hsome : ∀ (w : World) (a : Addr) (n c : Nat), (binOp .eql 49 (.slice (some a) n c) (.slice none 0 0)).run Try.prog w = .ok (.bool false) w := fun w a n c => by kernel_rfl
  intro q
  induction q with
  | zero => intro C C' k p w ρ d v _ _ _ h; cases h
  | succ q ih =>
    intro C C' k p w ρ d v hR hb hp h
    rw [reach] at h
    replace h := Option.bind_eq_some_iff.1 h
    obtain ⟨L, hL, h⟩ := h
    replace h := Option.bind_eq_some_iff.1 h
    obtain ⟨x, hx, h⟩ := h
    replace h := Option.bind_eq_some_iff.1 h
    obtain ⟨o, hw, h⟩ := h
    have hk := hR.klt hL
    have hsm := hR.small
    obtain ⟨x0, L', hL', ho⟩ := word_some hw
    rw [hL] at hL'
    obtain rfl := Option.some.inj hL'
    have LV := Aside0.mk (hR.lv k L hL)
    obtain ⟨X, rfl⟩ : ∃ X : Nat, x = (X : Int) := ⟨x.toNat, by omega⟩
    rw [Int.toNat_natCast] at ho h
    obtain ⟨hxn, wv, hv, hvf, hwd⟩ := LV.out.word ho
    obtain ⟨hkp, hxe⟩ := List.getElem?_eq_some_iff.1 hx
    obtain ⟨bls, ela, rls, hcl⟩ := hR.ls (by omega)
    subst ela
    have hlev := hcl k hk
    have hn := hR.hn
    have hl := hR.hl
    have hlcap := hR.hcap
    have hrow := LV.out.c2
    have HP := Aside0.mk hp
    have HR := Aside0.mk hR
    have HBS := Aside0.mk hb
    have IH := Aside0.mk ih
    have HINS := Aside0.mk hins
    obtain ⟨A1, cp1, rfl, hcp1, hC1⟩ := hp.reads
    obtain ⟨ad1, e1, hcell1⟩ := Kd.at_int hC1 (k : Int) (by omega) (by omega)
    subst e1
    have hrd : rd p (k : Int) = (X : Int) := by
      show p.getD k 0 = _
      rw [List.getD_eq_getElem?_getD, hx]; rfl
    rw [hrd, Int.toNat_natCast] at hcell1
    have t1 : ((k : Int) < (C.n : Int)) = True := eq_true (by omega)
    have t2 : ((k : Int) < (p.length : Int)) = True := eq_true (by omega)
    have t3 : ((X : Int) < (C.n : Int)) = True := eq_true (by omega)
    have t4 : (0 ≤ (k : Int)) = True := eq_true (by omega)
    have t5 : (0 ≤ (X : Int)) = True := eq_true (by omega)
    have HL := Aside0.mk hL
    clear ih hins hcl hb hR hw hx hL hL' hrd hxe rls
    cases o with
    | none =>
      rw [wordIn_none hwd] at hv
      simp only at h
      have HOL : Aside0 (L.orbit.length < 1000) := by
        by_cases e : L.orbit.length < 1000
        · exact ⟨e⟩
        · rw [if_neg e] at h; cases h
      rw [if_pos HOL.out] at h
      obtain ⟨d1, R1, hd1, S1⟩ := HR.out.setWord HL.out hxn (g := (some ad1, p.length, cp1)) (p := p) HP.out (by omega)
      simp only [svE] at R1 S1
      have R1' := Aside0.mk R1
      have S1' := Aside0.mk S1
      have hL1 : (C.put k ⟨L.orbit, L.words.set X (some p), L.gens⟩).levels[k]? = some ⟨L.orbit, L.words.set X (some p), L.gens⟩ := by
        rw [Ch.put_level (by rw [HR.out.len]; exact hk), if_pos rfl]
      have LV1 := R1.lv k _ hL1
      have hvo := LV1.c1
      rw [(hd1 k).1, (hd1 k).2] at hvo
      have hO1 := Aside0.mk LV1.orb
      rw [(hd1 k).2] at hO1
      have hbs1 := Aside0.mk (Nat.le_trans HBS.out S1.bel.size)
      have hofr := LV1.fr 1
      rw [(hd1 k).1] at hofr
      have hne := Aside0.mk (show some (d k).bl ≠ (d k).vo.ownBlock from fun e => by have h1 := LV.out.ro _ e.symm; rw [LV.out.rl] at h1; omega)
      have hblt := Aside0.mk LV1.blt
      rw [(hd1 k).1] at hblt
      have HL1 := Aside0.mk hL1
      have HD1 := Aside0.mk hd1
      have H := Aside0.mk h
      have HK := Aside0.mk hk
      have HSM := Aside0.mk hsm
      clear h hwd hk hsm hp ho R1 S1 LV1 hL1 hd1
      go_enter Try.func173, Try.ntmps173
      go_wp2_with ((with_reducible refine gate_builtin (b := .append) (xs := #[.tmp 43, .tmp 45]) rfl ?_); at_builtin; refine Kd.R_append (Kd.int .i64) (w0 := w.setCell ⟨(d k).bw, X, none⟩ (.slice (some ad1) p.length cp1)) base rfl (.tmp 43) (.tmp 45) 25 3 (.int .i64 0) 8 rfl Try.underlying25 int_info3 rfl (by decide) (by omega) (d k).vo L.orbit (X : Int) [.int .i64 (X : Int)] (fun b => some b = (d k).vo.ownBlock ∨ (w.setCell ⟨(d k).bw, X, none⟩ (.slice (some ad1) p.length cp1)).heap.size ≤ b) (fun _ => False) rfl ?aX ?aP (fun _ hk => hk.elim) ?aF ?aO ?aB ?aS ?aL ?_; (case aX => show Value.slice (some ⟨w.heap.size, 0, none⟩) 1 1 = _; simp [World.setCell]); (case aP => rfl); (case aF => exact fun _ h => .inr h); (case aO => exact Kd.R_mono hO1.out (fun _ h => .inl h)); (case aB => exact Below.refl _ _); (case aS => exact hbs1.out); (case aL => have := HOL.out; omega); intro v1 w1 ho hb hg hat; obtain ⟨Ao1, co1, eo1⟩ := Kd.R_slice ho; subst eo1; have HO := Aside0.mk ho; have HG := Aside0.mk hg; have HAT := Aside0.mk hat; have hvo1 := cell_move hvo (fun hlt => hg.block _ hlt hne.out); have hof1 := (World.frozen?_of_block (w := w.setCell ⟨(d k).bw, X, none⟩ (.slice (some ad1) p.length cp1)) (a := ⟨(d k).bl, 1, none⟩) (hg.block _ hblt.out hne.out)).trans hofr; clear ho hg hat hb)
      obtain ⟨ρ2, d2, R20, hd2, S20⟩ := R1'.out.addOrbit HL1.out HO.out (by rw [(HD1.out k).2]; exact HG.out) (by rw [(HD1.out k).2]; exact HAT.out) hbs1.out
      rw [(HD1.out k).1, Ch.put_put] at R20
      rw [(HD1.out k).1] at S20
      have el : (L.orbit ++ [(X : Int)]).length = L.orbit.length + 1 := by simp
      rw [el] at R20 S20
      clear el
      have R2 := Aside0.mk R20
      have S2 := Aside0.mk (S1'.out.trans S20)
      have HD2 : Aside0 (∀ j, (d2 j).bl = (d j).bl) := ⟨fun j => (hd2 j).trans (HD1.out j).1⟩
      clear R20 S20 hd2
      go_loopg [8] 1000 (fun kq v8 w' => ∃ (i : Nat) (C_ : Ch) (ρ_ : Nat → Nat) (d_ : Nat → LD), v8 = .int .i64 (i : Int) ∧ Aside0 (ChainAt ρ_ w' base c (some ⟨bls, 0, none⟩) capL C_ d_) ∧ Aside0 (∀ j, (d_ j).bl = (d j).bl) ∧ Aside0 (Step base ρ ρ_ w w') ∧ Aside0 (gensO (fun C g => (mulO p g).bind fun p' => reach ins q C k p') k kq i C_ = some C') ∧ Aside0 (i + kq ≤ 1000))
      case atStart => exact ⟨0, _, ρ2, d2, (by first | rfl | (simp; done)), R2, HD2, S2, H, ⟨by omega⟩⟩
      case round =>
        clear H R2 S2 HD2 hvo hvo1 hof1 hofr hO1 HO HG HAT R1' S1' hv hvf hrow hlev hn hl
        obtain ⟨i, C_, ρ_, d_, rfl, HR_, HD_, HS_, HA, HK1⟩ := hrel
        cases gk with
        | zero => exact absurd HA.out (by simp [gensO])
        | succ m1 =>
          have h := HA.out
          clear HA
          rw [gensO] at h
          replace h := Option.bind_eq_some_iff.1 h
          obtain ⟨L_, hL_, h⟩ := h
          have LV_ := Aside0.mk (HR_.out.lv k L_ hL_)
          cases hg : L_.gens[i]? with
          | none =>
            rw [hg] at h
            obtain rfl := Option.some.inj h
            obtain ⟨Ag, cg, hcg, _⟩ := LV_.out.gens_len
            rw [HD_.out k] at hcg
            have hge : (i < L_.gens.length) = False := eq_false (by have := List.getElem?_eq_none_iff.1 hg; omega)
            clear hg h hL_
            go_wp2
            go_end0
            exact ⟨rfl, ρ_, d_, HR_.out, HD_.out, HS_.out⟩
          | some g =>
            rw [hg] at h
            simp only at h
            obtain ⟨b, cg, hcg, hle, gv, hgv, hgp⟩ := LV_.out.gen_at hg
            rw [HD_.out k] at hcg
            have hlt : (i < L_.gens.length) = True := eq_true (List.getElem?_eq_some_iff.1 hg).1
            have hlt2 : ((i : Int) < (L_.gens.length : Int)) = True := eq_true (by have := (List.getElem?_eq_some_iff.1 hg).1; omega)
            have t6 : (0 ≤ (i : Int)) = True := eq_true (by omega)
            replace h := Option.bind_eq_some_iff.1 h
            obtain ⟨C2, h1, h⟩ := h
            replace h1 := Option.bind_eq_some_iff.1 h1
            obtain ⟨p', h1, h2⟩ := h1
            have A1 := Aside0.mk h1
            have A2 := Aside0.mk h2
            have H := Aside0.mk h
            have HGP := Aside0.mk hgp
            simp only [svE] at hgv
            have HPr := Aside0.mk (HP.out.step HS_.out)
            have wi : wrap64 ((i : Int) + 1) = ((i + 1 : Nat) : Int) := (IntWalk.wrap64_in _ ⟨by omega, by have := HK1.out; omega⟩).trans (by omega)
            clear h h1 h2 hgp hg hL_
            go_wp2_with (first
              | (go_at_call 131; (refine (mul_any A1.out HPr.out.at HGP.out.at).mono ?_); rintro e w6 ⟨v6, rfl, hr6, hb6⟩; have HP6 := Aside0.mk (HR_.out.perm hr6); have HB6 := Aside0.mk hb6; obtain ⟨A6, c6, rfl⟩ := Kd.R_slice hr6; clear hr6 hb6)
              | (go_at_call 173; (refine (IH.out C_ C2 k p' _ ρ_ d_ _ (HR_.out.below HB6.out) (Nat.le_trans HBS.out (Nat.le_trans HS_.out.bel.size HB6.out.size)) HP6.out A2.out).mono ?_); rintro e w8 ⟨rfl, hg8⟩; have HG8 := Aside0.mk hg8; clear hg8))
            obtain ⟨ρ', d', R', hd', S'⟩ := HG8.out
            have R'' := Aside0.mk R'
            have S'' := Aside0.mk ((HS_.out.trans (Step.of_below HB6.out (Nat.le_trans HBS.out HS_.out.bel.size))).trans S')
            have D'' : Aside0 (∀ j, (d' j).bl = (d j).bl) := ⟨fun j => (hd' j).trans (HD_.out j)⟩
            clear R' S' hd'
            go_roundg m1
            case measure => omega
            case rel => exact ⟨i + 1, C2, ρ', d', (by first | rfl | (rw [wi]; done) | (simp [wi]; done)), R'', D'', S'', H, ⟨by have := HK1.out; omega⟩⟩
    | some wd =>
      obtain ⟨aw, cw, ew, hcw, hCw⟩ := hwd.1.addr hwd.2
      rw [ew] at hv
      have wk : wrap64 ((k : Int) + 1) = ((k + 1 : Nat) : Int) := (IntWalk.wrap64_in _ ⟨by omega, by omega⟩).trans (by omega)
      simp only at h
      replace h := Option.bind_eq_some_iff.1 h
      obtain ⟨iw, A10, h⟩ := h
      replace h := Option.bind_eq_some_iff.1 h
      obtain ⟨rest, A20, h⟩ := h
      replace h := Option.bind_eq_some_iff.1 h
      obtain ⟨⟨rr, j⟩, A30, h⟩ := h
      have A1 := Aside0.mk A10
      have A2 := Aside0.mk A20
      have A3 := Aside0.mk A30
      have H := Aside0.mk h
      have HK := Aside0.mk hk
      have HSM := Aside0.mk hsm
      clear h A10 A20 A30 hwd hk hsm hp ew ho
      by_cases cj : j < C.n
      · have cjb : (j < C.n) = True := eq_true cj
        have H2 := Aside0.mk ((if_pos cj).symm.trans H.out)
        clear H cj
        go_enter Try.func173, Try.ntmps173
        go_wp2_with (first
          | (go_at_call 135; (refine (inv_any A1.out ⟨_, _, rfl, hcw, ?s1⟩).mono ?_); (case s1 => exact hCw); rintro e w5 ⟨vi, rfl, hri, hb5⟩; have HI5 := Aside0.mk (PermAt.of_R hri); obtain ⟨Ai, ci, rfl⟩ := Kd.R_slice hri; have HP5 := Aside0.mk (PermAt.below HP.out.at hb5); have HB5 := Aside0.mk hb5; clear hri hb5)
          | (go_at_call 131; (refine (mul_any A2.out HP5.out HI5.out).mono ?_); rintro e w6 ⟨v6, rfl, hr6, hb6⟩; have HP6 := Aside0.mk ((HR.out.below HB5.out).perm hr6); have HB6 := Aside0.mk (HB5.out.trans (hb6.mono HB5.out.size)); obtain ⟨A6, c6, rfl⟩ := Kd.R_slice hr6; clear hr6 hb6)
          | (go_at_call 126; (refine (sift_any 30 C rest rr (k + 1) j _ ρ base c capL _ d _ (HR.out.below HB6.out) HP6.out (by have := HK.out; have := HSM.out; omega) A3.out).mono ?_); rintro e w7 ⟨v7, rfl, hp7, hb7⟩; have HB7 := Aside0.mk (HB6.out.trans (hb7.mono HB6.out.size)); have hn7 := (HR.out.below HB7.out).hn; have HP7 := Aside0.mk (HP6.out.move (fun b hb hr => ⟨hr, hb7.block b hb⟩)); clear hp7 hb7)
          | (go_at_call 152; (refine (HINS.out C C' (k + 1) rest _ ρ d _ (HR.out.below HB7.out) (Nat.le_trans HBS.out HB7.out.size) HP7.out (by have := HK.out; have := HSM.out; omega) H2.out).mono ?_); rintro e w8 ⟨rfl, hg8⟩; have HG8 := Aside0.mk hg8; clear hg8))
        go_end0
        obtain ⟨ρ', d', R', hd', S'⟩ := HG8.out
        exact ⟨rfl, ρ', d', R', hd', (Step.of_below HB7.out HBS.out).trans S'⟩
      · have cjb : (j < C.n) = False := eq_false cj
        have H2 := Aside0.mk ((if_neg cj).symm.trans H.out)
        clear H cj
        go_enter Try.func173, Try.ntmps173
        go_wp2_with (first
          | (go_at_call 135; (refine (inv_any A1.out ⟨_, _, rfl, hcw, ?s1⟩).mono ?_); (case s1 => exact hCw); rintro e w5 ⟨vi, rfl, hri, hb5⟩; have HI5 := Aside0.mk (PermAt.of_R hri); obtain ⟨Ai, ci, rfl⟩ := Kd.R_slice hri; have HP5 := Aside0.mk (PermAt.below HP.out.at hb5); have HB5 := Aside0.mk hb5; clear hri hb5)
          | (go_at_call 131; (refine (mul_any A2.out HP5.out HI5.out).mono ?_); rintro e w6 ⟨v6, rfl, hr6, hb6⟩; have HP6 := Aside0.mk ((HR.out.below HB5.out).perm hr6); have HB6 := Aside0.mk (HB5.out.trans (hb6.mono HB5.out.size)); obtain ⟨A6, c6, rfl⟩ := Kd.R_slice hr6; clear hr6 hb6)
          | (go_at_call 126; (refine (sift_any 30 C rest rr (k + 1) j _ ρ base c capL _ d _ (HR.out.below HB6.out) HP6.out (by have := HK.out; have := HSM.out; omega) A3.out).mono ?_); rintro e w7 ⟨v7, rfl, hp7, hb7⟩; have HB7 := Aside0.mk (HB6.out.trans (hb7.mono HB6.out.size)); have hn7 := (HR.out.below HB7.out).hn; clear hp7 hb7))
        go_end0
        obtain rfl := Option.some.inj H2.out
        exact ⟨rfl, ρ, d, HR.out.below HB7.out, fun _ => rfl, Step.of_below HB7.out HBS.out⟩
end Go.Proofs.Ytmbldnoepjmhhaa.Bs
end
section
/- The walks of (*Chain).insert and of Add. -/
namespace Go.Proofs.Ytmbldnoepjmhhaa.Bs
open Go.RowKit Go.Proofs.YtmbldnoepjmhhaaW.PrintWords Go.Proofs.YtmbldnoepjmhhaaW.PrintLast Go.Proofs.YtmbldnoepjmhhaaW.PrintMore Go.Proofs.Ytmbldnoepjmhhaa.Plain Go.Proofs.Ytmbldnoepjmhhaa.PBs
attribute [local go_sem] max2_int min2_int max_two min_two max_three min_three max_four min_four
theorem LevAt.orb_at {ρ : Nat → Nat} {w : World} {base n k : Nat} {L : Lv} {D : LD} (h : LevAt ρ w base n k L D) : PermAt w D.vo L.orbit := PermAt.of_R h.orb
set_option maxHeartbeats 8000000 in
set_option maxRecDepth 100000 in
theorem insert_any (base c capL : Nat) (la : Option Addr) :
    ∀ (q : Nat) (C C' : Ch) (k : Nat) (p : List Int) (w : World) (ρ : Nat → Nat) (d : Nat → LD) (v : Value), ChainAt ρ w base c la capL C d → base ≤ w.heap.size → PermIn ρ w v p → k ≤ 20 → insert_ q C k p = some C' →
      Calls Try.prog 152 #[.pointer (some ⟨c, 0, none⟩), .int .i64 (k : Int), v] w (Grew base c capL la ρ w d C') := by
  intro q
  induction q with
  | zero => intro C C' k p w ρ d v _ _ _ _ h; cases h
  | succ q ih =>
    intro C C' k p w ρ d v hR hb hp hk20 h
    have IH := Aside0.mk (reach_any (insert_ q) base c capL la ih)
    clear ih
    rw [insert_] at h
    replace h := Option.bind_eq_some_iff.1 h
    obtain ⟨L, hL, h⟩ := h
    have hk := hR.klt hL
    have hsm := hR.small
    have HGL : Aside0 (L.gens.length < 1000 ∧ L.orbit.length < 1000) := by
      by_cases e : L.gens.length < 1000 ∧ L.orbit.length < 1000
      · exact ⟨e⟩
      · rw [if_neg e] at h; cases h
    rw [if_pos HGL.out] at h
    have LV := Aside0.mk (hR.lv k L hL)
    obtain ⟨bls, ela, rls, hcl⟩ := hR.ls (by omega)
    subst ela
    have hlev := hcl k hk
    have hl := hR.hl
    have hlcap := hR.hcap
    have hvg := LV.out.c3
    have hgfr := LV.out.fr 3
    have HP := Aside0.mk hp
    have HR := Aside0.mk hR
    have HBS := Aside0.mk hb
    have HL := Aside0.mk hL
    have H := Aside0.mk h
    have HK := Aside0.mk hk
    have HSM := Aside0.mk hsm
    obtain ⟨A1, cp1, rfl, hcp1, hC1⟩ := hp.reads
    have hne := Aside0.mk (show some (d k).bl ≠ (d k).vg.ownBlock from fun e => by have h1 := LV.out.rg _ e.symm; rw [LV.out.rl] at h1; omega)
    have hblt := Aside0.mk LV.out.blt
    have hG1 := Aside0.mk LV.out.gen
    have hglen := Aside0.mk LV.out.glen
    have t1 : ((k : Int) < (C.n : Int)) = True := eq_true (by omega)
    have t4 : (0 ≤ (k : Int)) = True := eq_true (by omega)
    clear hcl hb hR hL h hk hsm hp hcp1 hC1 rls
    go_enter Try.func152, Try.ntmps152
    go_wp2_with (first
      | ((with_reducible refine gate_builtin (b := .append) (xs := #[.tmp 20, .tmp 22]) rfl ?_); at_builtin; refine Kd.R_append kv (w0 := w) base rfl (.tmp 20) (.tmp 22) 35 49 (.slice none 0 0) 24 rfl Try.underlying35 perm_info rfl (by decide) (by omega) (d k).vg (d k).gs ((A1, p.length, cp1) : Sv) [.slice A1 p.length cp1] (fun b => some b = (d k).vg.ownBlock ∨ w.heap.size ≤ b) (fun _ => False) rfl rfl ?aP (fun _ hk => hk.elim) ?aF ?aO ?aB ?aS ?aL ?_; (case aP => rfl); (case aF => exact fun _ h => .inr h); (case aO => exact Kd.R_mono hG1.out (fun _ h => .inl h)); (case aB => exact Below.refl _ _); (case aS => exact HBS.out); (case aL => have := HGL.out; have := hglen.out; omega); intro v1 w1 ho hb hg hat; obtain ⟨Ao1, co1, eo1⟩ := Kd.R_slice ho; subst eo1; obtain ⟨ρ2, d2, R20, hd2, S20⟩ := HR.out.addGen HL.out (g := (A1, p.length, cp1)) HP.out ho hg hat HBS.out; have el : ((d k).gs ++ [((A1, p.length, cp1) : Sv)]).length = (d k).gs.length + 1 := (by simp); rw [el] at R20 S20; have hL2 : (C.put k ⟨L.orbit, L.words, L.gens ++ [p]⟩).levels[k]? = some ⟨L.orbit, L.words, L.gens ++ [p]⟩ := (by rw [Ch.put_level (by rw [HR.out.len]; exact HK.out), if_pos rfl]); have LV2 := Aside0.mk (R20.lv k _ hL2); have hvo2 := LV2.out.c1; rw [hd2 k] at hvo2; have R2 := Aside0.mk R20; have S2 := Aside0.mk S20; have HD2 := Aside0.mk hd2; have hvg1 := cell_move hvg (fun hlt => hg.block _ hlt hne.out); have hgf1 := (World.frozen?_of_block (w := w) (a := ⟨(d k).bl, 3, none⟩) (hg.block _ hblt.out hne.out)).trans hgfr; clear ho hg hat hb R20 S20 hd2 el hL2)
      | (go_at_call 122; (refine (clone_any LV2.out.orb_at (by have := HGL.out; show L.orbit.length ≤ 1000000; omega)).mono ?_); rintro e w3 ⟨v3, rfl, hr3, hb3⟩; have HP3 := Aside0.mk (R2.out.perm hr3); have HB3 := Aside0.mk hb3; obtain ⟨A3, c3, rfl⟩ := Kd.R_slice hr3; clear hr3 hb3))
    have R3 := Aside0.mk (R2.out.below HB3.out)
    have S3 := Aside0.mk (S2.out.trans (Step.of_below HB3.out (Nat.le_trans HBS.out S2.out.bel.size)))
    clear hvo2 hvg1 hgf1 hvg hgfr hlev hl R2 S2 LV2 hG1
    go_loopg [33] L.orbit.length (fun kq v33 w' => ∃ (j : Nat) (C_ : Ch) (ρ_ : Nat → Nat) (d_ : Nat → LD), v33 = .int .i64 (j : Int) ∧ Aside0 (ChainAt ρ_ w' base c (some ⟨bls, 0, none⟩) capL C_ d_) ∧ Aside0 (∀ j, (d_ j).bl = (d j).bl) ∧ Aside0 (Step base ρ ρ_ w w') ∧ Aside0 (PermIn ρ_ w' (.slice A3 L.orbit.length c3) L.orbit) ∧ Aside0 (PermIn ρ_ w' (.slice A1 p.length cp1) p) ∧ Aside0 (eachO (fun C x => (C.word k x).bind fun o => o.bind fun w => (mulO w p).bind fun p => reach (insert_ q) 30 C k p) (L.orbit.drop j) C_ = some C') ∧ Aside0 (j + kq = L.orbit.length))
    case atStart => exact ⟨0, _, ρ2, d2, (by first | rfl | (simp; done)), R3, HD2, S3, HP3, ⟨HP.out.step S3.out⟩, H, ⟨by omega⟩⟩
    case round =>
      clear H R3 S3 HD2 HP3
      obtain ⟨j, C_, ρ_, d_, rfl, HR_, HD_, HS_, HC_, HQ_, HA, HK1⟩ := hrel
      have h := HA.out
      clear HA
      cases gk with
      | zero =>
        have hj : (j < L.orbit.length) = False := eq_false (by have := HK1.out; omega)
        rw [List.drop_eq_nil_of_le (by have := HK1.out; omega)] at h
        obtain rfl := Option.some.inj h
        clear h
        go_wp2
        go_end0
        exact ⟨rfl, ρ_, d_, HR_.out, HD_.out, HS_.out⟩
      | succ m1 =>
        have hjl : j < L.orbit.length := by have := HK1.out; omega
        have HK2 : Aside0 (j + 1 + m1 = L.orbit.length) := ⟨by have := HK1.out; omega⟩
        have hj : (j < L.orbit.length) = True := eq_true hjl
        have hj2 : ((j : Int) < (L.orbit.length : Int)) = True := eq_true (by omega)
        have t6 : (0 ≤ (j : Int)) = True := eq_true (by omega)
        rw [List.drop_eq_getElem_cons hjl, eachO] at h
        obtain ⟨A3', c3', e3, hc3, hC3⟩ := HC_.out.reads
        injection e3 with e3a e3b e3c
        subst e3a; subst e3c
        obtain ⟨ad3, e3, hcell3⟩ := Kd.at_int hC3 (j : Int) (by omega) (by omega)
        subst e3
        rw [rd_get _ _ hjl, Int.toNat_natCast] at hcell3
        replace h := Option.bind_eq_some_iff.1 h
        obtain ⟨C2, h1, h⟩ := h
        replace h1 := Option.bind_eq_some_iff.1 h1
        obtain ⟨o, hw, h1⟩ := h1
        replace h1 := Option.bind_eq_some_iff.1 h1
        obtain ⟨wd, ho, h1⟩ := h1
        subst ho
        replace h1 := Option.bind_eq_some_iff.1 h1
        obtain ⟨p', h1, h2⟩ := h1
        obtain ⟨x0, L_, hL_, ho⟩ := word_some hw
        have LV_ := HR_.out.lv k L_ hL_
        obtain ⟨X, hX⟩ : ∃ X : Nat, L.orbit[j] = (X : Int) := ⟨L.orbit[j].toNat, by omega⟩
        rw [hX] at ho hcell3
        rw [Int.toNat_natCast] at ho
        obtain ⟨hxn, wv, hv, _, hwd⟩ := LV_.word ho
        obtain ⟨aw, cw, ew, hcw, hCw⟩ := hwd.1.addr hwd.2
        rw [ew] at hv
        have hrow := LV_.c2
        rw [HD_.out k] at hrow
        have t3 : ((X : Int) < (C_.n : Int)) = True := eq_true (by omega)
        have t5 : (0 ≤ (X : Int)) = True := eq_true (by omega)
        have A1' := Aside0.mk h1
        have A2' := Aside0.mk h2
        have H := Aside0.mk h
        have wi : wrap64 ((j : Int) + 1) = ((j + 1 : Nat) : Int) := (IntWalk.wrap64_in _ ⟨by omega, by have := HGL.out; omega⟩).trans (by omega)
        clear h h1 h2 hwd ho hX hL_ LV_ hw ew hC3 hc3
        go_wp2_with (first
          | (go_at_call 131; (refine (mul_any A1'.out ⟨_, _, rfl, hcw, ?s1⟩ HQ_.out.at).mono ?_); (case s1 => exact hCw); rintro e w6 ⟨v6, rfl, hr6, hb6⟩; have HP6 := Aside0.mk (HR_.out.perm hr6); have HB6 := Aside0.mk hb6; obtain ⟨A6, c6, rfl⟩ := Kd.R_slice hr6; clear hr6 hb6)
          | (go_at_call 173; (refine (IH.out 30 C_ C2 k p' _ ρ_ d_ _ (HR_.out.below HB6.out) (Nat.le_trans HBS.out (Nat.le_trans HS_.out.bel.size HB6.out.size)) HP6.out A2'.out).mono ?_); rintro e w8 ⟨rfl, hg8⟩; have HG8 := Aside0.mk hg8; clear hg8))
        obtain ⟨ρ', d', R', hd', S'⟩ := HG8.out
        have R'' := Aside0.mk R'
        have T := (Step.of_below HB6.out (Nat.le_trans HBS.out HS_.out.bel.size)).trans S'
        have S'' := Aside0.mk (HS_.out.trans T)
        have C'' := Aside0.mk (HC_.out.step T)
        have Q'' := Aside0.mk (HQ_.out.step T)
        have D'' : Aside0 (∀ j, (d' j).bl = (d j).bl) := ⟨fun j => (hd' j).trans (HD_.out j)⟩
        clear R' S' hd' T
        go_roundg m1
        case measure => exact Nat.lt_succ_self _
        case rel => exact ⟨j + 1, C2, ρ', d', (by first | rfl | (rw [wi]; done) | (simp [wi]; done)), R'', D'', S'', C'', Q'', H, HK2⟩
end Go.Proofs.Ytmbldnoepjmhhaa.Bs
end
section
/- The walk of (*Chain).Add, and of New. -/
namespace Go.Proofs.Ytmbldnoepjmhhaa.Bs
open Go.RowKit Go.Proofs.YtmbldnoepjmhhaaW.PrintWords Go.Proofs.YtmbldnoepjmhhaaW.PrintLast Go.Proofs.YtmbldnoepjmhhaaW.PrintMore Go.Proofs.Ytmbldnoepjmhhaa.Plain Go.Proofs.Ytmbldnoepjmhhaa.PBs
attribute [local go_sem] max2_int min2_int max_two min_two max_three min_three max_four min_four
set_option maxHeartbeats 8000000 in
set_option maxRecDepth 100000 in
theorem add_any (base c capL : Nat) (la : Option Addr) (C C' : Ch) (p : List Int) (w : World) (ρ : Nat → Nat) (d : Nat → LD) (v : Value) (hR : ChainAt ρ w base c la capL C d) (hb : base ≤ w.heap.size) (hp : PermIn ρ w v p) (h : add C p = some C') :
    Calls Try.prog 140 #[.pointer (some ⟨c, 0, none⟩), v] w (Grew base c capL la ρ w d C') := by
  have hn := hR.hn
  have HP := Aside0.mk hp
  have HR := Aside0.mk hR
  have HBS := Aside0.mk hb
  obtain ⟨A1, cp1, rfl, hcp1, hC1⟩ := hp.reads
  clear hp hR hb hcp1 hC1
  unfold add at h
  by_cases c0 : 0 < C.n
  · have t1 : (0 < C.n) = True := eq_true c0
    have t2 : ((0 : Int) < (C.n : Int)) = True := eq_true (by omega)
    have t3 : decide ((0 : Int) < (C.n : Int)) = true := decide_eq_true (by omega)
    rw [if_pos c0] at h
    replace h := Option.bind_eq_some_iff.1 h
    obtain ⟨b, h1, h⟩ := h
    have A1' := Aside0.mk h1
    clear h1 c0
    cases b with
    | true =>
      obtain rfl := Option.some.inj h
      clear h
      go_enter Try.func140, Try.ntmps140
      go_wp2_with (go_at_call 95; (refine (contains_any C p true _ ρ base c capL la d _ HR.out HP.out A1'.out).mono ?_); rintro e w2 ⟨rfl, hb2⟩; have HB2 := Aside0.mk hb2; clear hb2)
      go_end0
      exact ⟨rfl, ρ, d, HR.out.below HB2.out, fun _ => rfl, Step.of_below HB2.out HBS.out⟩
    | false =>
      have H := Aside0.mk ((if_neg (by decide)).symm.trans h)
      clear h
      go_enter Try.func140, Try.ntmps140
      go_wp2_with (first
        | (go_at_call 95; (refine (contains_any C p false _ ρ base c capL la d _ HR.out HP.out A1'.out).mono ?_); rintro e w2 ⟨rfl, hb2⟩; have HB2 := Aside0.mk hb2; clear hb2)
        | (go_at_call 152; (refine (insert_any base c capL la 30 C C' 0 p _ ρ d _ (HR.out.below HB2.out) (Nat.le_trans HBS.out HB2.out.size) (HP.out.move (fun b hb hr => ⟨hr, HB2.out.block b hb⟩)) (Nat.zero_le _) H.out).mono ?_); rintro e w8 ⟨rfl, hg8⟩; have HG8 := Aside0.mk hg8; clear hg8))
      go_end0
      obtain ⟨ρ', d', R', hd', S'⟩ := HG8.out
      exact ⟨rfl, ρ', d', R', hd', (Step.of_below HB2.out HBS.out).trans S'⟩
  · have t1 : (0 < C.n) = False := eq_false c0
    have t2 : ((0 : Int) < (C.n : Int)) = False := eq_false (by omega)
    have t3 : decide ((0 : Int) < (C.n : Int)) = false := decide_eq_false (by omega)
    rw [if_neg c0] at h
    obtain rfl := Option.some.inj h
    clear h c0
    go_enter Try.func140, Try.ntmps140
    go_wp2
    go_end0
    exact ⟨rfl, ρ, d, HR.out, fun _ => rfl, Step.refl _ _ _⟩
end Go.Proofs.Ytmbldnoepjmhhaa.Bs
end
section
/- The chain in memory while New makes it. -/
namespace Go.Proofs.Ytmbldnoepjmhhaa.Bs
open Go.RowKit Go.Proofs.YtmbldnoepjmhhaaW.PrintWords Go.Proofs.YtmbldnoepjmhhaaW.PrintLast Go.Proofs.YtmbldnoepjmhhaaW.PrintMore Go.Proofs.Ytmbldnoepjmhhaa.Plain Go.Proofs.Ytmbldnoepjmhhaa.PBs
abbrev kp : Kd Nat := Kd.scalar (fun b => Value.pointer (some ⟨b, 0, none⟩)) (fun _ => rfl)
def startLv (n i : Nat) : Lv := ⟨[(i : Int)], (List.replicate n none).set i (some (idL n)), []⟩
structure Part (ρ : Nat → Nat) (w : World) (base c n i : Nat) (vl : Value) (bls : List Nat) (d : Nat → LD) : Prop where
  fresh : ∀ b, w.heap.size ≤ b → ρ b = 0
  rb : ∀ b, ρ b ≠ 0 → base ≤ b
  rc : ρ c = 1000
  hn : w.cell? ⟨c, 0, none⟩ = some (.int .i64 (n : Int))
  hl : w.cell? ⟨c, 1, none⟩ = some vl
  fr : ∀ j, w.frozen? ⟨c, j, none⟩ = false
  rl : ∀ b, vl.ownBlock = some b → ρ b = 1001
  row : Kd.R kp 140 w base (fun b => some b = vl.ownBlock) vl bls
  blen : bls.length = i
  lev : ∀ k, k < i → bls[k]? = some (d k).bl
  lv : ∀ k, k < i → LevAt ρ w base n k (startLv n k) (d k)
theorem Part.clt {ρ : Nat → Nat} {w : World} {base c n i : Nat} {vl : Value} {bls : List Nat} {d : Nat → LD} (h : Part ρ w base c n i vl bls d) : c < w.heap.size := World.block_lt_of_cell? w ⟨c, 0, none⟩ h.hn
theorem Part.move {ρ ρ' : Nat → Nat} {w w' : World} {base c n i : Nat} {vl : Value} {bls : List Nat} {d : Nat → LD} (h : Part ρ w base c n i vl bls d) (hb : Below w.heap.size w w')
    (hρ : ∀ b, b < w.heap.size → ρ' b = ρ b) (hf : ∀ b, w'.heap.size ≤ b → ρ' b = 0) (hr : ∀ b, ρ' b ≠ 0 → base ≤ b) : Part ρ' w' base c n i vl bls d where
  fresh := hf
  rb := hr
  rc := (hρ c h.clt).trans h.rc
  hn := cell_move h.hn (fun hlt => hb.block _ hlt)
  hl := cell_move h.hl (fun hlt => hb.block _ hlt)
  fr := fun j => (World.frozen?_of_block (w := w) (w' := w') (a := ⟨c, j, none⟩) (hb.block _ h.clt)).trans (h.fr j)
  rl := fun b hvb => (hρ b (Kd.R_lt h.row b hvb)).trans (h.rl b hvb)
  row := Kd.R_step h.row (fun b _ hlt => hb.block b hlt)
  blen := h.blen
  lev := h.lev
  lv := fun k hk => (h.lv k hk).move hρ (fun b hlt _ => hb.block b hlt)
theorem Part.hang {ρ : Nat → Nat} {w : World} {base c n i : Nat} {vl : Value} {bls : List Nat} {d : Nat → LD} (h : Part ρ w base c n i vl bls d) (hi : i < 200) {D : LD} (hD : LevAt ρ w base n i (startLv n i) D) {ok : Nat → Prop} {v1 : Value} {w1 : World}
    (hR : Kd.R kp 140 w1 base ok v1 (bls ++ [D.bl])) (hgr : w.grownBy w1 vl.ownBlock) (hat : v1.ownBlock = vl.ownBlock ∨ ∃ b, v1.ownBlock = some b ∧ w.heap.size ≤ b) (hbase : base ≤ w.heap.size) :
    ∃ ρ', Part ρ' (w1.setCell ⟨c, 1, none⟩ v1) base c n (i + 1) v1 (bls ++ [D.bl]) (fun k => if k = i then D else d k) ∧ Below base w (w1.setCell ⟨c, 1, none⟩ v1) := by
  have hc := h.clt
  have hcb : base ≤ c := h.rb c (by rw [h.rc]; omega)
  have hv1 : ∀ b, v1.ownBlock = some b → b ≠ c ∧ (b < w.heap.size → ρ b = 1001) ∧ base ≤ b ∧ b < w1.heap.size := by
    intro b hb
    have h1 : b < w.heap.size → ρ b = 1001 := fun hlt => by
      rcases hat with e | ⟨b', e, hle⟩
      · exact h.rl b (e ▸ hb)
      · rw [e] at hb; have := Option.some.inj hb; omega
    refine ⟨fun e => ?_, h1, Kd.R_base hR b hb, Kd.R_lt hR b hb⟩
    have := h1 (e ▸ hc)
    rw [e, h.rc] at this
    omega
  have hkeep : ∀ b, b < w.heap.size → b ≠ c → ρ b ≠ 1001 → (w1.setCell ⟨c, 1, none⟩ v1).heap[b]? = w.heap[b]? := fun b hb hne hr =>
    (Below.heap_setCell w1 ⟨c, 1, none⟩ v1 b hne).trans (hgr.block b hb (fun e => hr (h.rl b e.symm)))
  have hsz : (w1.setCell ⟨c, 1, none⟩ v1).heap.size = w1.heap.size := by simp [World.setCell]
  have hcr : w1.heap[c]? = w.heap[c]? := hgr.block _ hc (fun e => by have := h.rl _ e.symm; rw [h.rc] at this; omega)
  have hρ : ∀ b, b < w.heap.size → (if some b = v1.ownBlock then 1001 else ρ b) = ρ b := fun b hb => by
    by_cases e : some b = v1.ownBlock
    · rw [if_pos e, (hv1 b e.symm).2.1 hb]
    · rw [if_neg e]
  have hlv : ∀ k D', k < 200 → LevAt ρ w base n k (startLv n k) D' → LevAt (fun b => if some b = v1.ownBlock then 1001 else ρ b) (w1.setCell ⟨c, 1, none⟩ v1) base n k (startLv n k) D' := fun k D' hk hl =>
    hl.move hρ (fun b hb hr => hkeep b hb (fun e => by rw [e, h.rc] at hr; omega) (fun e => by omega))
  refine ⟨fun b => if some b = v1.ownBlock then 1001 else ρ b, {
    fresh := fun b hb => by
      rw [hsz] at hb
      have hne : ¬ some b = v1.ownBlock := fun e => by have := (hv1 b e.symm).2.2.2; omega
      show (if some b = v1.ownBlock then 1001 else ρ b) = 0
      rw [if_neg hne]
      exact h.fresh b (Nat.le_trans hgr.size hb)
    rb := fun b hb => by
      by_cases e : some b = v1.ownBlock
      · exact (hv1 b e.symm).2.2.1
      · have hb' : (if some b = v1.ownBlock then 1001 else ρ b) ≠ 0 := hb
        rw [if_neg e] at hb'; exact h.rb b hb'
    rc := (hρ c hc).trans h.rc
    hn := (World.cell?_setCell_other _ _ _ _ (by simp)).trans (cell_move h.hn (fun _ => hcr))
    hl := World.cell?_setCell_same' _ _ _ (by rw [cell_move h.hl (fun _ => hcr)]; rfl)
    fr := fun j => by rw [World.frozen?_setCell]; exact (World.frozen?_of_block (w := w) (a := ⟨c, j, none⟩) hcr).trans (h.fr j)
    rl := fun b hb => if_pos hb.symm
    row := Kd.R_far (Kd.R_tight rfl hR) (fun b hb => (hv1 b hb.symm).1) _
    blen := by rw [List.length_append, h.blen]; rfl
    lev := fun k hk => by
      rw [getElem?_snoc, h.blen]
      by_cases e : k = i
      · subst e; simp
      · rw [if_pos (by omega), if_neg e]; exact h.lev k (by omega)
    lv := fun k hk => by
      by_cases e : k = i
      · subst e; simp only [if_true]; exact hlv _ _ hi hD
      · simp only [if_neg e]; exact hlv _ _ (by omega) (h.lv k (by omega)) }, ?_⟩
  exact ((Below.refl _ _).grown hgr hbase (fun b e => h.rb b (by rw [h.rl b e]; omega))).setCell hcb _
theorem Part.whole {ρ : Nat → Nat} {w : World} {base c n : Nat} {vl : Value} {bls : List Nat} {d : Nat → LD} (h : Part ρ w base c n n vl bls d) (hn : n ≤ 20) :
    ∃ la capL, ChainAt (fun b => if ρ b = 1000 ∨ ρ b = 1001 then 0 else ρ b) w base c la capL (start n) d := by
  have hz : ∀ b, ρ b = 0 → (if ρ b = 1000 ∨ ρ b = 1001 then 0 else ρ b) = 0 := fun b hb => by rw [hb]; rfl
  obtain ⟨A, capL, e, hle, hC⟩ := Kd.R_reads h.row
  rw [h.blen] at e hle
  refine ⟨A, capL, {
    len := by simp [start]
    small := hn
    fresh := fun b hb => hz b (h.fresh b hb)
    rb := fun b hb => h.rb b (fun e => hb (hz b e))
    rc := by simp only [h.rc]; rfl
    hn := h.hn
    hl := by rw [h.hl, e]; rfl
    hcap := hle
    ls := fun h0 => ?_
    lv := fun k L hL => ?_ }⟩
  · obtain ⟨ad, eA, _⟩ := hC.2.2 (by rw [h.blen]; exact h0)
    subst eA
    have hrow := h.row
    rw [e] at hrow
    obtain ⟨b, rfl⟩ := Kd.R_head hrow
    have hb : ρ b = 1001 := h.rl b (by rw [e]; rfl)
    refine ⟨b, rfl, by simp only [hb]; rfl, fun k hk => ?_⟩
    have hk : k < n := hk
    obtain ⟨hc, _⟩ := Kd.R_celln 0 hrow (k : Int) (by omega) (by omega)
    rw [Int.toNat_natCast] at hc
    have e2 : rdOf 0 bls (k : Int) = (d k).bl := by
      unfold rdOf
      rw [Int.toNat_natCast, List.getD_eq_getElem?_getD, h.lev k hk]; rfl
    rw [e2] at hc
    exact hc
  · have hL' := hL
    simp only [start] at hL'
    have hk : k < n := by
      have := (List.getElem?_eq_some_iff.1 hL').1
      simpa using this
    rw [List.getElem?_map, List.getElem?_range hk] at hL'
    obtain rfl := Option.some.inj hL'
    have hl := h.lv k hk
    have e1 : ∀ b, (ρ b = 0 ∨ ρ b = 4 * k + 1 ∨ ρ b = 4 * k + 2 ∨ ρ b = 4 * k + 3 ∨ ρ b = 4 * k + 4) → (if ρ b = 1000 ∨ ρ b = 1001 then 0 else ρ b) = ρ b := fun b hb => if_neg (by omega)
    have hpi : ∀ v p, PermIn ρ w v p → PermIn (fun b => if ρ b = 1000 ∨ ρ b = 1001 then 0 else ρ b) w v p := fun v p hp => hp.move (fun b _ hr => ⟨hz b hr, rfl⟩)
    exact {
      rl := (e1 _ (by rw [hl.rl]; omega)).trans hl.rl
      rw' := (e1 _ (by rw [hl.rw']; omega)).trans hl.rw'
      ro := fun b hb => (e1 _ (by rw [hl.ro b hb]; omega)).trans (hl.ro b hb)
      rg := fun b hb => (e1 _ (by rw [hl.rg b hb]; omega)).trans (hl.rg b hb)
      c1 := hl.c1
      c2 := hl.c2
      c3 := hl.c3
      c0 := hl.c0
      fr := hl.fr
      wrd := hl.wrd
      wlen := hl.wlen
      wp := fun x v o hv ho => by
        have := hl.wp x v o hv ho
        cases o with
        | none => exact this
        | some p => exact ⟨hpi _ _ this.1, this.2⟩
      orb := hl.orb
      gen := hl.gen
      glen := hl.glen
      gp := fun j v p hv hp => hpi _ _ (hl.gp j v p hv hp) }
end Go.Proofs.Ytmbldnoepjmhhaa.Bs
end
section
/- make([]T, n), told with the value that it gives; a fresh level of a chain. -/
namespace Go.Proofs.Ytmbldnoepjmhhaa.Bs
open Go.RowKit Go.Proofs.YtmbldnoepjmhhaaW.PrintWords Go.Proofs.YtmbldnoepjmhhaaW.PrintLast Go.Proofs.YtmbldnoepjmhhaaW.PrintMore Go.Proofs.Ytmbldnoepjmhhaa.Plain Go.Proofs.Ytmbldnoepjmhhaa.PBs
section
variable {P : Program} {ops : Array Oper} {rest : List Oper} {o : Oper} {a : Act} {Q : Exit → Act → World → Prop} {α : Type}
theorem make_at (d : Kd α) {W : World} (base e : Nat) (hgd : o.guard = none) {N : Tmp} (hd : o.dst = some N) (t : TypeId) (x y : Operand) (ho : o.op = .makeSlice t x y) (m : Nat) (hx : a.eval x = .int .i64 (m : Int)) (hy : a.eval y = .int .i64 (m : Int))
    (ht : P.underlying t = some (.slice e)) (z : Value) (bytes : Nat) (hinfo : (P.info? e).map (fun i => (i.zero, i.size, i.bytes)) = some (some z, d.sz, bytes)) (hz : z.cells.size = d.sz) (hs0 : 0 < d.sz) (hb0 : 0 < bytes)
    (z0 : α) (hzero : d.M W base (fun _ => False) z0 z.cells.toList) (hl : m * bytes ≤ 281474976710656) (hbase : base ≤ W.heap.size)
    (h : ∀ w1, d.R e w1 base (fun b => b = W.heap.size) (.slice (some ⟨W.heap.size, 0, none⟩) m m) (List.replicate m z0) → Below W.heap.size W w1 → w1.heap.size = W.heap.size + 1 → wpList P ops Q rest (a.put o.dst (.slice (some ⟨W.heap.size, 0, none⟩) m m)) w1) : wpList P ops Q (o :: rest) a W := by
  obtain ⟨i0, hi, hzz⟩ := Option.map_eq_some_iff.1 hinfo
  simp only [Prod.mk.injEq] at hzz
  obtain ⟨hz0, hz1, hz2⟩ := hzz
  have hm : m ≤ 281474976710656 := Nat.le_trans (Nat.le_mul_of_pos_right _ hb0) hl
  have hr := run_make (P := P) W t e i0 z ht hi hz0 .i64 .i64 (m : Int) (m : Int) (by omega) (by omega)
    (by
      have h3 : ((i0.bytes * m : Nat) : Int) ≤ 281474976710656 := by rw [hz2, Nat.mul_comm]; omega
      rwa [Int.natCast_mul] at h3) (by omega)
  simp only [Int.toNat_natCast] at hr
  rw [hz1] at hr
  have hrun : (execOp a.eval o).run P W = .ok (.value (.slice (some ⟨W.heap.size, 0, none⟩) m m)) (W.alloc (.cells (madeCells z.cells (m * d.sz)) e)) := by simp [execOp, ho, hx, hy, hr]
  have hrep := Kd.reps_made (R := d.M W base (fun _ => False)) hz hs0 hzero m
  refine Kd.event_run hgd hrun (h _ ⟨fun k hk => ?_, (madeCells z.cells (m * d.sz)).toList, ?_, ?_⟩ (below_alloc (Below.refl _ _) _) (by simp))
  · have : W.heap.size = k := by simpa [Value.ownBlock] using hk
    exact this.symm
  · have h2 := World.ownsRow_lit (base := base) (e := e) (size := d.sz) W (madeCells z.cells (m * d.sz)) m hbase (by simp only [maxLen]; omega) (by simpa using hrep.1)
    simpa using h2
  · exact hrep.imp_ (fun p c hp => d.M_mono (fun k hk => hk.1.elim) (Kd.M_below (d.M_bound hp) (below_alloc (Below.refl _ _) _)))
end
theorem lit_one (W : World) (base : Nat) (x : Int) (hb : base ≤ W.heap.size) : Kd.R (Kd.int .i64) 3 (W.alloc (.cells #[.int .i64 x] 3)) base (fun b => b = W.heap.size) (.slice (some ⟨W.heap.size, 0, none⟩) 1 1) [x] := by
  refine ⟨fun k hk => ?_, ?_⟩
  · have : W.heap.size = k := by simpa [Value.ownBlock] using hk
    exact this.symm
  · exact OwnRow.lit (ps := [x]) (inner := [.int .i64 x]) W base ⟨rfl, fun j p hj => by
      cases j with
      | zero => simp at hj; subst hj; rfl
      | succ j => simp at hj⟩ hb (by simp)
theorem Part.fresh_level {ρ : Nat → Nat} {w wx : World} {base c n i : Nat} {vl : Value} {bls : List Nat} {d : Nat → LD} (h : Part ρ w base c n i vl bls d) (hbase : base ≤ w.heap.size) (hi : i < n) {b1 b2 b3 : Nat} {sv : Sv} (hb : Below w.heap.size w wx)
    (h1 : w.heap.size ≤ b1) (h2 : w.heap.size ≤ b2) (h3 : w.heap.size ≤ b3) (n12 : b1 ≠ b2) (n13 : b1 ≠ b3) (n23 : b2 ≠ b3)
    (c0 : wx.cell? ⟨b3, 0, none⟩ = some (.int .i64 (i : Int))) (c1 : wx.cell? ⟨b3, 1, none⟩ = some (.slice (some ⟨b1, 0, none⟩) 1 1)) (c2 : wx.cell? ⟨b3, 2, none⟩ = some (.slice (some ⟨b2, 0, none⟩) n n)) (c3 : wx.cell? ⟨b3, 3, none⟩ = some (.slice none 0 0))
    (fr : ∀ j, wx.frozen? ⟨b3, j, none⟩ = false) (hO : Kd.R (Kd.int .i64) 3 wx base (fun b => b = b1) (.slice (some ⟨b1, 0, none⟩) 1 1) [(i : Int)]) (hW : Kd.R kv 49 wx base (fun b => b = b2) (.slice (some ⟨b2, 0, none⟩) n n) ((List.replicate n ((none, 0, 0) : Sv)).set i sv))
    (hP : Kd.V (Kd.int .i64) 3 wx 0 (fun b => w.heap.size ≤ b ∧ b ≠ b1 ∧ b ≠ b2 ∧ b ≠ b3) (svE sv) (idL n)) :
    ∃ ρ' D, Part ρ' wx base c n i vl bls d ∧ LevAt ρ' wx base n i (startLv n i) D ∧ D.bl = b3 := by
  have l1 := Kd.R_lt hO b1 rfl
  have l2 := Kd.R_lt hW b2 rfl
  have l3 : b3 < wx.heap.size := World.block_lt_of_cell? wx ⟨b3, 0, none⟩ c0
  refine ⟨fun b => if b = b3 then 4 * i + 1 else if b = b2 then 4 * i + 2 else if b = b1 then 4 * i + 3 else ρ b, ⟨b3, b2, .slice (some ⟨b1, 0, none⟩) 1 1, .slice none 0 0, (List.replicate n ((none, 0, 0) : Sv)).set i sv, []⟩, h.move hb ?_ ?_ ?_, ?_, rfl⟩
  · intro b hlt
    show (if b = b3 then 4 * i + 1 else if b = b2 then 4 * i + 2 else if b = b1 then 4 * i + 3 else ρ b) = ρ b
    rw [if_neg (by omega), if_neg (by omega), if_neg (by omega)]
  · intro b hle
    show (if b = b3 then 4 * i + 1 else if b = b2 then 4 * i + 2 else if b = b1 then 4 * i + 3 else ρ b) = 0
    rw [if_neg (by omega), if_neg (by omega), if_neg (by omega)]
    exact h.fresh b (Nat.le_trans hb.size hle)
  · intro b hne
    replace hne : (if b = b3 then 4 * i + 1 else if b = b2 then 4 * i + 2 else if b = b1 then 4 * i + 3 else ρ b) ≠ 0 := hne
    by_cases e3 : b = b3
    · omega
    · rw [if_neg e3] at hne
      by_cases e2 : b = b2
      · omega
      · rw [if_neg e2] at hne
        by_cases e1 : b = b1
        · omega
        · rw [if_neg e1] at hne
          exact h.rb b hne
  · have hz : ∀ b, w.heap.size ≤ b ∧ b ≠ b1 ∧ b ≠ b2 ∧ b ≠ b3 → (if b = b3 then 4 * i + 1 else if b = b2 then 4 * i + 2 else if b = b1 then 4 * i + 3 else ρ b) = 0 := fun b hb => by
      rw [if_neg hb.2.2.2, if_neg hb.2.2.1, if_neg hb.2.1]
      exact h.fresh b hb.1
    exact {
      rl := by simp
      rw' := by simp [n23]
      ro := fun b hb => by
        have : b1 = b := by simpa [Value.ownBlock] using hb
        subst this
        simp [n12, n13]
      rg := fun b hb => by simp [Value.ownBlock] at hb
      c0 := c0
      c1 := c1
      c2 := c2
      c3 := c3
      fr := fr
      wrd := hW
      wlen := by simp [startLv]
      wp := fun x v o hv ho => by
        simp only [startLv] at ho
        rw [List.getElem?_set] at hv ho
        by_cases e : i = x
        · subst e
          rw [if_pos rfl, if_pos (by simpa using hi)] at hv ho
          obtain rfl := Option.some.inj hv
          obtain rfl := Option.some.inj ho
          exact ⟨Kd.V_mono hP hz, by simp [idL]; omega⟩
        · rw [if_neg e] at hv ho
          rw [List.getElem?_replicate] at hv ho
          split at hv
          · rename_i hx
            rw [if_pos hx] at ho
            obtain rfl := Option.some.inj hv
            obtain rfl := Option.some.inj ho
            rfl
          · cases hv
      orb := Kd.R_tight rfl hO
      gen := Kd.R_nil _ _ _ _ _
      glen := rfl
      gp := fun j v p hv => by simp at hv }
theorem level_made {ρ : Nat → Nat} {wr w2 w4 : World} {base c n i : Nat} {vl : Value} {bls : List Nat} {d : Nat → LD} {A4 : Option Addr} {m4 c4 : Nat} (HP : Part ρ wr base c n i vl bls d) (hbase : base ≤ wr.heap.size) (hi : i < n)
    (HB2 : Below (wr.alloc (.cells #[.int .i64 (i : Int)] 3)).heap.size (wr.alloc (.cells #[.int .i64 (i : Int)] 3)) w2) (hz2 : w2.heap.size = wr.heap.size + 1 + 1)
    (HO2 : Kd.R kv 49 w2 base (fun b => b = wr.heap.size + 1) (.slice (some ⟨wr.heap.size + 1, 0, none⟩) n n) (List.replicate n ((none, 0, 0) : Sv)))
    (HH4 : ∀ b, b < w2.heap.size + 1 → w4.heap[b]? = (w2.alloc (.cells #[.int .i64 (i : Int), .slice (some ⟨wr.heap.size, 0, none⟩) 1 1, .slice (some ⟨wr.heap.size + 1, 0, none⟩) n n, .slice none 0 0] 144)).heap[b]?)
    (HB4 : Below wr.heap.size wr w4) (HR4 : Kd.R (Kd.int .i64) 3 w4 (w2.heap.size + 1) (fun _ => True) (.slice A4 m4 c4) (idL n)) :
    ∃ ρ' D, Part ρ' (w4.setCell ⟨wr.heap.size + 1, i, none⟩ (.slice A4 m4 c4)) base c n i vl bls d ∧ LevAt ρ' (w4.setCell ⟨wr.heap.size + 1, i, none⟩ (.slice A4 m4 c4)) base n i (startLv n i) D ∧ D.bl = w2.heap.size ∧ Below wr.heap.size wr (w4.setCell ⟨wr.heap.size + 1, i, none⟩ (.slice A4 m4 c4)) := by
  have hbx : Below wr.heap.size wr (w4.setCell ⟨wr.heap.size + 1, i, none⟩ (.slice A4 m4 c4)) := HB4.setCell (by show wr.heap.size ≤ wr.heap.size + 1; omega) _
  have k3 : (w4.setCell ⟨wr.heap.size + 1, i, none⟩ (.slice A4 m4 c4)).heap[w2.heap.size]? = (w2.alloc (.cells #[.int .i64 (i : Int), .slice (some ⟨wr.heap.size, 0, none⟩) 1 1, .slice (some ⟨wr.heap.size + 1, 0, none⟩) n n, .slice none 0 0] 144)).heap[w2.heap.size]? :=
    (Below.heap_setCell w4 ⟨wr.heap.size + 1, i, none⟩ _ _ (by show w2.heap.size ≠ wr.heap.size + 1; omega)).trans (HH4 _ (by omega))
  have cc : ∀ j v, (w2.alloc (.cells #[.int .i64 (i : Int), .slice (some ⟨wr.heap.size, 0, none⟩) 1 1, .slice (some ⟨wr.heap.size + 1, 0, none⟩) n n, .slice none 0 0] 144)).cell? ⟨w2.heap.size, j, none⟩ = some v → (w4.setCell ⟨wr.heap.size + 1, i, none⟩ (.slice A4 m4 c4)).cell? ⟨w2.heap.size, j, none⟩ = some v := fun j v h => cell_move h (fun _ => k3)
  have k1 : w4.heap[wr.heap.size]? = (wr.alloc (.cells #[.int .i64 (i : Int)] 3)).heap[wr.heap.size]? := (HH4 _ (by omega)).trans ((Below.heap_alloc _ _ _ (by omega)).trans (HB2.block _ (by simp)))
  have k2 : w4.heap[wr.heap.size + 1]? = w2.heap[wr.heap.size + 1]? := (HH4 _ (by omega)).trans (Below.heap_alloc _ _ _ (by omega))
  have hp := HP.fresh_level (b1 := wr.heap.size) (b2 := wr.heap.size + 1) (b3 := w2.heap.size) (sv := (A4, m4, c4)) hbase hi hbx (Nat.le_refl _) (by omega) (by omega) (by omega) (by omega) (by omega)
    (cc 0 _ (by rw [World.cell?_alloc_at _ _ _ _ rfl]; rfl)) (cc 1 _ (by rw [World.cell?_alloc_at _ _ _ _ rfl]; rfl)) (cc 2 _ (by rw [World.cell?_alloc_at _ _ _ _ rfl]; rfl)) (cc 3 _ (by rw [World.cell?_alloc_at _ _ _ _ rfl]; rfl))
    (fun j => (World.frozen?_of_block (w := w2.alloc (.cells #[.int .i64 (i : Int), .slice (some ⟨wr.heap.size, 0, none⟩) 1 1, .slice (some ⟨wr.heap.size + 1, 0, none⟩) n n, .slice none 0 0] 144)) (a := ⟨w2.heap.size, j, none⟩) k3).trans (World.frozen?_alloc_at _ _ _ _ rfl))
    (Kd.R_step (lit_one wr base (i : Int) hbase) (fun b hb _ => by
      subst hb
      exact (Below.heap_setCell w4 ⟨wr.heap.size + 1, i, none⟩ _ _ (by show wr.heap.size ≠ wr.heap.size + 1; omega)).trans k1))
    (by
      have h4 := Kd.R_step (w1 := w4) HO2 (fun b hb _ => by subst hb; exact k2)
      have := Kd.R_putn h4 (i : Int) ((A4, m4, c4) : Sv)
      simp only [Int.toNat_natCast] at this
      exact this)
    (by
      have h1 := Kd.R_bound HR4
      have h2 := Kd.R_far h1 (p := ⟨wr.heap.size + 1, i, none⟩) (fun k hk => by have := hk.2.1; show k ≠ wr.heap.size + 1; omega) (.slice A4 m4 c4)
      exact Kd.V_mono (Kd.R_V h2) (fun k hk => by have := hk.2.1; omega))
  obtain ⟨ρ', D, h1, h2, h3⟩ := hp
  exact ⟨ρ', D, h1, h2, h3, hbx⟩
theorem permIn_old {ρ : Nat → Nat} {w : World} {v : Value} {p : List Int} (h : PermAt w v p) (hρ : ∀ b, b < w.heap.size → ρ b = 0) : PermIn ρ w v p := by
  obtain ⟨A, c, rfl, hc, hC⟩ := h
  exact Kd.V_mono (Kd.V_mk hc (Kd.C_F (Kd.heap_int .i64) hC)) hρ
theorem row_at {w : World} {A : Option Addr} {n e : Nat} {gens : List (List Int)} (h : Kd.C (Kd.slice e (Kd.int .i64)) w A n gens) {j : Nat} {g : List Int} (hj : gens[j]? = some g) : ∃ ad v, A = some ad ∧ w.cell? (ad.add j) = some (svE v) ∧ PermAt w (svE v) g := by
  obtain ⟨h1, h2, h3⟩ := h
  have hlt := (List.getElem?_eq_some_iff.1 hj).1
  obtain ⟨ad, eA, hc⟩ := h3 (by omega)
  obtain ⟨c, hcl, hK, hcc⟩ := hc j g hj
  obtain ⟨A', c', rfl, hle, hC⟩ := hK
  refine ⟨ad, (A', g.length, c'), eA, ?_, A', c', rfl, hle, hC⟩
  have := hcc 0 _ rfl
  simp [Kd.slice] at this
  exact this
end Go.Proofs.Ytmbldnoepjmhhaa.Bs
end
section
/- The walk of New. -/
namespace Go.Proofs.Ytmbldnoepjmhhaa.Bs
open Go.RowKit Go.Proofs.YtmbldnoepjmhhaaW.PrintWords Go.Proofs.YtmbldnoepjmhhaaW.PrintLast Go.Proofs.YtmbldnoepjmhhaaW.PrintMore Go.Proofs.Ytmbldnoepjmhhaa.Plain Go.Proofs.Ytmbldnoepjmhhaa.PBs
attribute [local go_sem] max2_int min2_int max_two min_two max_three min_three max_four min_four
theorem level_info : (Try.prog.info? 140).map (fun i => (i.zero, i.size, i.bytes)) = some (some (.pointer none), 1, 8) := by kernel_rfl
def New (n : Nat) (C : Ch) (w : World) (e : Ending) (w' : World) : Prop :=
  ∃ c la capL ρ d, e = .returned (.pointer (some ⟨c, 0, none⟩)) ∧ ChainAt ρ w' w.heap.size c la capL C d ∧ Below w.heap.size w w'
set_option maxHeartbeats 8000000 in
set_option maxRecDepth 100000 in
theorem new_any (n : Nat) (hn20 : n ≤ 20) (gens : List (List Int)) (A : Option Addr) (cap : Nat) (w : World) (hg : Kd.C (Kd.slice 3 (Kd.int .i64)) w A gens.length gens) (hcap : gens.length ≤ cap) (C : Ch) (h : new_ n gens = some C) :
    Calls Try.prog 118 #[.int .i64 (n : Int), .slice A gens.length cap] w (New n C w) := by
  have HG := Aside0.mk hg
  have HN := Aside0.mk hn20
  have H := Aside0.mk h
  have HC := Aside0.mk hcap
  clear hg hn20 h hcap
  go_enter Try.func118, Try.ntmps118
  go_wp2
  have P0 : Part (fun b => if b = w.heap.size then 1000 else 0) (w.alloc (.cells #[.int .i64 (n : Int), .slice none 0 0] 139)) w.heap.size w.heap.size n 0 (.slice none 0 0) [] (fun _ => ⟨0, 0, .slice none 0 0, .slice none 0 0, [], []⟩) := {
    fresh := fun b hb => if_neg (by simp at hb; omega)
    rb := fun b hb => by
      by_cases e : b = w.heap.size
      · omega
      · exact absurd (if_neg e) hb
    rc := if_pos rfl
    hn := by rw [World.cell?_alloc_at _ _ _ _ rfl]; rfl
    hl := by rw [World.cell?_alloc_at _ _ _ _ rfl]; rfl
    fr := fun j => World.frozen?_alloc_at _ _ _ _ rfl
    rl := fun b hb => by simp [Value.ownBlock] at hb
    row := Kd.R_nil _ _ _ _ _
    blen := rfl
    lev := fun k hk => by omega
    lv := fun k hk => by omega }
  have HP0 := Aside0.mk P0
  clear P0
  go_loopg [14] n (fun kq v14 w' => ∃ (i : Nat) (ρ_ : Nat → Nat) (vl_ : Value) (bls_ : List Nat) (d_ : Nat → LD), v14 = .int .i64 (i : Int) ∧ Aside0 (Part ρ_ w' w.heap.size w.heap.size n i vl_ bls_ d_) ∧ Aside0 (Below w.heap.size w w') ∧ Aside0 (i + kq = n))
  case atStart => exact ⟨0, _, _, _, _, (by first | rfl | (simp; done)), HP0, ⟨by repeat (first | (with_reducible first | apply below_alloc | apply pw_below_drewN | apply below_drew1) | exact Below.refl _ _)⟩, ⟨by omega⟩⟩
  case round =>
    clear HP0
    obtain ⟨i, ρ_, vl_, bls_, d_, rfl, HP, HB, HK1⟩ := hrel
    cases gk with
    | zero =>
      have hin : (i < n) = False := eq_false (by have := HK1.out; omega)
      have ein : i = n := by have := HK1.out; omega
      subst ein
      obtain ⟨la, capL, R0⟩ := HP.out.whole HN.out
      have R := Aside0.mk R0
      have S0 := Aside0.mk (Step.refl w.heap.size (fun b => if ρ_ b = 1000 ∨ ρ_ b = 1001 then 0 else ρ_ b) wr)
      have HC0 := HC.out
      clear R0 HP
      go_wp2
      go_loopg [46] gens.length (fun kq v46 w' => ∃ (j : Nat) (C_ : Ch) (ρ' : Nat → Nat) (d' : Nat → LD), v46 = .int .i64 (j : Int) ∧ Aside0 (ChainAt ρ' w' w.heap.size w.heap.size la capL C_ d') ∧ Aside0 (Below w.heap.size w w') ∧ Aside0 (addAll (gens.drop j) C_ = some C) ∧ Aside0 (j + kq = gens.length))
      case atStart => exact ⟨0, _, _, _, (by first | rfl | (simp; done)), R, HB, H, ⟨by omega⟩⟩
      case round =>
        clear R S0 H HB
        obtain ⟨j, C_, ρ', d', rfl, HR_, HB_, HA, HJ⟩ := hrel
        have h := HA.out
        clear HA
        cases gk with
        | zero =>
          have hj : (j < gens.length) = False := eq_false (by have := HJ.out; omega)
          rw [List.drop_eq_nil_of_le (by have := HJ.out; omega)] at h
          obtain rfl := Option.some.inj h
          clear h
          go_wp2
          go_ret
          exact ⟨_, la, capL, ρ', d', rfl, HR_.out, HB_.out⟩
        | succ m1 =>
          have hjl : j < gens.length := by have := HJ.out; omega
          have hj : (j < gens.length) = True := eq_true hjl
          have hj2 : ((j : Int) < (gens.length : Int)) = True := eq_true (by omega)
          have hj0 : (0 ≤ (j : Int)) = True := eq_true (by omega)
          have HJ2 : Aside0 (j + 1 + m1 = gens.length) := ⟨by have := HJ.out; omega⟩
          rw [List.drop_eq_getElem_cons hjl, addAll] at h
          replace h := Option.bind_eq_some_iff.1 h
          obtain ⟨C2, h1, h⟩ := h
          obtain ⟨ad, gv, eA, hcell0, hga⟩ := row_at HG.out (List.getElem?_eq_getElem hjl)
          subst eA
          have hcell := (World.cell?_of_block (w := w) (w' := wr) (HB_.out.block _ (World.block_lt_of_cell? w _ hcell0))).trans hcell0
          simp only [svE] at hcell
          have HGP := Aside0.mk ((permIn_old (ρ := ρ') hga (fun b hb => Classical.byContradiction fun hne => by have := HR_.out.rb b hne; omega)).move (w' := wr) (ρ' := ρ') (fun b hb hr => ⟨hr, HB_.out.block b hb⟩))
          simp only [svE] at HGP
          have H1 := Aside0.mk h1
          have H := Aside0.mk h
          have wi : wrap64 ((j : Int) + 1) = ((j + 1 : Nat) : Int) := (IntWalk.wrap64_in _ ⟨by omega, by have := (HG.out).2.1; omega⟩).trans (by omega)
          clear h h1 hcell0 hga
          go_wp2_with (go_at_call 140; (refine (add_any w.heap.size w.heap.size capL la C_ C2 _ _ ρ' d' _ HR_.out HB_.out.size HGP.out H1.out).mono ?_); rintro e w8 ⟨rfl, hg8⟩; have HG8 := Aside0.mk hg8; clear hg8)
          obtain ⟨ρ2, d2, R', hd', S'⟩ := HG8.out
          have R'' := Aside0.mk R'
          have B'' := Aside0.mk (HB_.out.trans S'.bel)
          clear R' S' hd'
          go_roundg m1
          case measure => exact Nat.lt_succ_self _
          case rel => exact ⟨j + 1, C2, ρ2, d2, (by first | rfl | (rw [wi]; done) | (simp [wi]; done)), R'', B'', H, HJ2⟩
    | succ m1 =>
      have HK2 : Aside0 (i + 1 + m1 = n) := ⟨by have := HK1.out; omega⟩
      have hin' : i < n := by have := HK1.out; omega
      have hin : (i < n) = True := eq_true hin'
      have hin2 : ((i : Int) < (n : Int)) = True := eq_true (by omega)
      have hn0 : (0 ≤ (n : Int)) = True := eq_true (by omega)
      have hi0 : (0 ≤ (i : Int)) = True := eq_true (by omega)
      have hWB := Aside0.mk (HB.out.size)
      go_upto_region 6 with ((with_reducible refine gate_dst (N := 22) rfl ?_); refine make_at kv w.heap.size 49 rfl (N := 22) rfl 35 _ _ rfl n rfl rfl Try.underlying35 (.slice none 0 0) 24 perm_info rfl (by decide) (by omega) ((none, 0, 0) : Sv) rfl ?aL ?aB ?_; (case aL => have := HN.out; omega); (case aB => have := hWB.out; simp; omega); intro w2 ho2 hb2 hz2; have HO2 := Aside0.mk ho2; have HB2 := Aside0.mk hb2; have hz2' : w2.heap.size = wr.heap.size + 1 + 1 := (by simpa using hz2); have HZ2 := Aside0.mk hz2'; clear ho2 hb2 hz2 hz2')
      have e0 : (wr.alloc (.cells #[.int .i64 (i : Int)] 3)).heap.size = wr.heap.size + 1 := by simp
      have hO2 := HO2.out
      rw [e0] at hO2
      obtain ⟨hc2, hf2⟩ := Kd.R_celln (none, 0, 0) hO2 (i : Int) (by omega) (by omega)
      rw [Int.toNat_natCast] at hc2 hf2
      have HO2' := Aside0.mk hO2
      have HBX := Aside0.mk (below_step (below_alloc (Below.refl wr.heap.size wr) _) HB2.out)
      have HC2 := Aside0.mk hc2
      have HF2 := Aside0.mk hf2
      clear e0 hO2 HO2 hc2 hf2
      go_cut [] (fun wx => ∃ (ρ' : Nat → Nat) (D : LD), Aside0 (Part ρ' wx w.heap.size w.heap.size n i vl_ bls_ d_) ∧ Aside0 (LevAt ρ' wx w.heap.size n i (startLv n i) D) ∧ Aside0 (D.bl = w2.heap.size) ∧ Aside0 (Below w.heap.size w wx))
      case first =>
        go_region_with (go_at_call 102; (refine (id_any n (by have := HN.out; omega) _).mono ?_); rintro e w4 ⟨v4, rfl, hr4, hb4⟩; have HH4 := Aside0.mk (show ∀ b, b < w2.heap.size + 1 → w4.heap[b]? = (w2.alloc (.cells #[.int .i64 (i : Int), .slice (some ⟨wr.heap.size, 0, none⟩) 1 1, .slice (some ⟨wr.heap.size + 1, 0, none⟩) n n, .slice none 0 0] 144)).heap[b]? from fun b hb => hb4.block b (by simpa using hb)); have hl4 := cell_move (w' := w4) (show (w2.alloc (.cells #[.int .i64 (i : Int), .slice (some ⟨wr.heap.size, 0, none⟩) 1 1, .slice (some ⟨wr.heap.size + 1, 0, none⟩) n n, .slice none 0 0] 144)).cell? ⟨w2.heap.size, 2, none⟩ = some (.slice (some ⟨wr.heap.size + 1, 0, none⟩) n n) from by rw [World.cell?_alloc_at _ _ _ _ rfl]; rfl) (fun _ => HH4.out _ (by omega)); obtain ⟨A4, c4, rfl⟩ := Kd.R_slice hr4; have k4 : w4.heap[wr.heap.size + 1]? = w2.heap[wr.heap.size + 1]? := (HH4.out _ (by have := HZ2.out; omega)).trans (Below.heap_alloc _ _ _ (by have := HZ2.out; omega)); have hs4 := cell_move (w' := w4) HC2.out (fun _ => k4); have hf4 := (World.frozen?_of_block (w := w2) (a := ⟨wr.heap.size + 1, i, none⟩) k4).trans HF2.out; have K4 := Aside0.mk k4; have HR4 := Aside0.mk (Kd.R_lower (base' := w2.heap.size + 1) hr4 (by simp)); have HB4 := Aside0.mk (below_step (bel HBX.out) hb4); clear hr4 hb4 k4)
        all_goals
          go_wp2_with fail
          go_meet
          obtain ⟨ρ', D, q1, q2, q3, q4⟩ := level_made HP.out HB.out.size hin' HB2.out HZ2.out HO2'.out HH4.out HB4.out HR4.out
          exact ⟨ρ', D, ⟨q1⟩, ⟨q2⟩, ⟨q3⟩, ⟨below_step HB.out q4⟩⟩
      case rest =>
        obtain ⟨ρ', D, P', L', eD, B'⟩ := hcut
        have hl := P'.out.hl
        have hfr := P'.out.fr 1
        have hne := Aside0.mk (show some w.heap.size ≠ vl_.ownBlock from fun e => by have h1 := P'.out.rl _ e.symm; rw [P'.out.rc] at h1; omega)
        have hct := Aside0.mk P'.out.clt
        have hrow := Aside0.mk P'.out.row
        have hbl := Aside0.mk P'.out.blen
        have eD' := Aside0.mk eD.out.symm
        clear HP HB HB2 HO2' HC2 HF2 HBX HZ2 eD
        go_wp2_with ((with_reducible refine gate_builtin (b := .append) (xs := #[.tmp 37, .tmp 39]) rfl ?_); at_builtin; refine Kd.R_append kp (w0 := wc) w.heap.size rfl (.tmp 37) (.tmp 39) 137 140 (.pointer none) 8 rfl Try.underlying137 level_info rfl (by decide) (by omega) vl_ bls_ (w2.heap.size) [.pointer (some ⟨w2.heap.size, 0, none⟩)] (fun b => some b = vl_.ownBlock ∨ wc.heap.size ≤ b) (fun _ => False) rfl rfl ?aP (fun _ hk => hk.elim) ?aF ?aO ?aB ?aS ?aL ?_; (case aP => rfl); (case aF => exact fun _ h => .inr h); (case aO => exact Kd.R_mono hrow.out (fun _ h => .inl h)); (case aB => exact Below.refl _ _); (case aS => exact B'.out.size); (case aL => have := hbl.out; have := HN.out; omega); intro v1 w1 ho hb hg hat; rw [eD'.out] at ho; obtain ⟨ρ2, P20, B20⟩ := P'.out.hang (by have := HN.out; omega) L'.out ho hg hat B'.out.size; obtain ⟨Ao1, co1, eo1⟩ := Kd.R_slice ho; subst eo1; have P2 := Aside0.mk P20; have B2 := Aside0.mk (B'.out.trans B20); have hl1 := cell_move hl (fun hlt => hg.block _ hlt hne.out); have hf1 := (World.frozen?_of_block (w := wc) (a := ⟨w.heap.size, 1, none⟩) (hg.block _ hct.out hne.out)).trans hfr; clear ho hg hat hb P20 B20)
        have wi : wrap64 ((i : Int) + 1) = ((i + 1 : Nat) : Int) := (IntWalk.wrap64_in _ ⟨by omega, by have := HN.out; omega⟩).trans (by omega)
        have el : (bls_ ++ [D.bl]).length = bls_.length + 1 := by simp
        have P3 := P2.out
        have B3 := B2.out
        rw [el] at P3 B3
        go_roundg m1
        case measure => exact Nat.lt_succ_self _
        case rel => exact ⟨i + 1, ρ2, _, _, _, (by first | rfl | (rw [wi]; done) | (simp [wi]; done)), ⟨P3⟩, ⟨B3⟩, HK2⟩
end Go.Proofs.Ytmbldnoepjmhhaa.Bs
end
section
/- The walks of below and Order. -/
namespace Go.Proofs.Ytmbldnoepjmhhaa.Bs
open Go.RowKit Go.Proofs.YtmbldnoepjmhhaaW.PrintWords Go.Proofs.YtmbldnoepjmhhaaW.PrintLast Go.Proofs.YtmbldnoepjmhhaaW.PrintMore Go.Proofs.Ytmbldnoepjmhhaa.Plain Go.Proofs.Ytmbldnoepjmhhaa.PBs
attribute [local go_sem] max2_int min2_int max_two min_two max_three min_three max_four min_four
theorem levels_cut {ρ : Nat → Nat} {w : World} {base c capL : Nat} {la : Option Addr} {C : Ch} {d : Nat → LD} (h : ChainAt ρ w base c la capL C d) {k : Nat} (hk : k ≤ C.n) :
    ∃ (A' : Option Addr) (m : Nat), C.n = k + m ∧ (∀ W : World, (Instr.slice 137 (.slice la C.n capL) (some (.int .i64 (k : Int))) none none).run Try.prog W = .ok (.slice A' m (capL - k)) W) ∧ m ≤ capL - k ∧
      ∀ j, j < m → ∃ ad, A' = some ad ∧ w.cell? (ad.add j) = some (.pointer (some ⟨(d (k + j)).bl, 0, none⟩)) := by
  obtain ⟨i0, hi, hzz⟩ := Option.map_eq_some_iff.1 level_info
  simp only [Prod.mk.injEq] at hzz
  have hcut := cut_from (P := Try.prog) 137 140 .i64 Try.underlying137 hi 1 hzz.2.1 la C.n capL (k : Int) (by omega) (by omega)
  rw [Int.toNat_natCast, Nat.mul_one] at hcut
  refine ⟨_, C.n - k, by omega, hcut, by have := h.hcap; omega, fun j hj => ?_⟩
  obtain ⟨b, e, _, hc⟩ := h.ls (by omega)
  subst e
  have hcap := h.hcap
  refine ⟨_, by rw [if_neg (by omega)]; rfl, ?_⟩
  have := hc (k + j) (by omega)
  show w.cell? ((Addr.add ⟨b, 0, none⟩ k).add j) = _
  rw [add_at, add_at, Nat.zero_add]
  exact this
theorem LevAt.orbit_at {ρ : Nat → Nat} {w : World} {base n k : Nat} {L : Lv} {D : LD} (h : LevAt ρ w base n k L D) : ∃ A cg, w.cell? ⟨D.bl, 1, none⟩ = some (.slice A L.orbit.length cg) ∧ L.orbit.length ≤ cg ∧ Kd.C (Kd.int .i64) w A L.orbit.length L.orbit := by
  obtain ⟨A, cg, e, hle, hC⟩ := Kd.R_reads h.orb
  exact ⟨A, cg, by rw [h.c1, e], hle, hC⟩
set_option maxHeartbeats 8000000 in
set_option maxRecDepth 100000 in
theorem below_any {ρ : Nat → Nat} {w : World} {base c capL : Nat} {la : Option Addr} {C : Ch} {d : Nat → LD} (hR : ChainAt ρ w base c la capL C d) (k : Nat) (hk : k ≤ C.n) :
    Calls Try.prog 119 #[.pointer (some ⟨c, 0, none⟩), .int .i64 (k : Int)] w fun e w' => e = .returned (.int .i64 (belowF C k)) ∧ Below w.heap.size w w' := by
  obtain ⟨r, hr⟩ : ∃ r, belowF C k = r := ⟨_, rfl⟩
  rw [hr]
  have HRr := Aside0.mk hr
  clear hr
  have HR := Aside0.mk hR
  have hl := hR.hl
  obtain ⟨A', m, hm, hcut, hmc, hcell⟩ := levels_cut hR hk
  have HM := Aside0.mk hm
  have HCL := Aside0.mk hcell
  have hsm := Aside0.mk hR.small
  have hmc' : ((m : Int) ≤ ((capL - k : Nat) : Int)) = True := eq_true (by omega)
  have hk0 : (0 ≤ (k : Int)) = True := eq_true (by omega)
  have hkn : ((k : Int) ≤ (C.n : Int)) = True := eq_true (by omega)
  clear hm hcell hmc hR
  go_enter Try.func119, Try.ntmps119
  go_wp2
  go_loopg [5, 15] m (fun kq v5 v15 w' => ∃ (j : Nat) (acc : Int), v15 = .int .i64 (j : Int) ∧ v5 = .int .i64 acc ∧ Aside0 ((C.levels.drop (k + j)).foldl (fun a L => wrap64 (a * (L.orbit.length : Int))) acc = r) ∧ Aside0 (j + kq = m) ∧ Aside0 (Below w.heap.size w w'))
  case atStart => exact ⟨0, 1, (by first | rfl | (simp; done)), rfl, HRr, ⟨by omega⟩, ⟨by repeat (first | (with_reducible first | apply below_alloc | apply pw_below_drewN | apply below_drew1) | exact Below.refl _ _)⟩⟩
  case round =>
    obtain ⟨j, acc, rfl, rfl, HA, HJ, HB⟩ := hrel
    cases gk with
    | zero =>
      have hj : (j < m) = False := eq_false (by have := HJ.out; omega)
      have he : (C.levels.drop (k + j)) = [] := List.drop_eq_nil_of_le (by have := HR.out.len; have := HM.out; have := HJ.out; omega)
      have h := HA.out
      rw [he] at h
      have hacc : acc = r := h
      subst hacc
      clear he h HA
      go_wp2
      go_ret
      exact ⟨rfl, bel HB.out⟩
    | succ m1 =>
      have hjl : j < m := by have := HJ.out; omega
      have hj : (j < m) = True := eq_true hjl
      have hj2 : ((j : Int) < (m : Int)) = True := eq_true (by omega)
      have hj0 : (0 ≤ (j : Int)) = True := eq_true (by omega)
      have HJ2 : Aside0 (j + 1 + m1 = m) := ⟨by have := HJ.out; omega⟩
      have hlt : k + j < C.levels.length := by have := HR.out.len; have := HM.out; omega
      obtain ⟨L, hL⟩ : ∃ L, C.levels[k + j]? = some L := ⟨_, List.getElem?_eq_getElem hlt⟩
      have R := HR.out.below HB.out
      obtain ⟨ad, eA, hcl⟩ := HCL.out j hjl
      subst eA
      have hcl' := (World.cell?_of_block (w := w) (w' := wr) (HB.out.block _ (World.block_lt_of_cell? w _ hcl))).trans hcl
      obtain ⟨Ao, cg, hco, _, _⟩ := (R.lv (k + j) L hL).orbit_at
      have wi : wrap64 ((j : Int) + 1) = ((j + 1 : Nat) : Int) := (IntWalk.wrap64_in _ ⟨by omega, by have := hsm.out; have := HM.out; omega⟩).trans (by omega)
      have h := HA.out
      rw [List.drop_eq_getElem_cons hlt] at h
      have eL : C.levels[k + j] = L := by rw [List.getElem?_eq_getElem hlt] at hL; exact Option.some.inj hL
      rw [eL] at h
      have H := Aside0.mk h
      clear h eL hL R hcl HA
      go_wp2
      repeat (go_quiet (fail); try go_wp2)
      go_roundg m1
      case measure => exact Nat.lt_succ_self _
      case rel => exact ⟨j + 1, _, (by first | rfl | (rw [wi]; done) | (simp [wi]; done)), rfl, H, HJ2, ⟨bel HB.out⟩⟩
set_option maxHeartbeats 8000000 in
theorem order_any {ρ : Nat → Nat} {w : World} {base c capL : Nat} {la : Option Addr} {C : Ch} {d : Nat → LD} (hR : ChainAt ρ w base c la capL C d) :
    Calls Try.prog 87 #[.pointer (some ⟨c, 0, none⟩)] w fun e w' => e = .returned (.int .i64 (belowF C 0)) ∧ Below w.heap.size w w' := by
  have HR := Aside0.mk hR
  clear hR
  go_enter Try.func87, Try.ntmps87
  go_wp2_with (go_at_call 119; (refine (below_any HR.out 0 (Nat.zero_le _)).mono ?_); rintro e w2 ⟨rfl, hb2⟩; have HB2 := Aside0.mk hb2; clear hb2)
  go_ret
  exact ⟨rfl, HB2.out⟩
end Go.Proofs.Ytmbldnoepjmhhaa.Bs
end
section
/- The state of Elements' closure in memory. -/
namespace Go.Proofs.Ytmbldnoepjmhhaa.Bs
open Go.RowKit Go.Proofs.YtmbldnoepjmhhaaW.PrintWords Go.Proofs.YtmbldnoepjmhhaaW.PrintLast Go.Proofs.YtmbldnoepjmhhaaW.PrintMore Go.Proofs.Ytmbldnoepjmhhaa.Plain Go.Proofs.Ytmbldnoepjmhhaa.PBs
structure ElSt (W0 : World) (c bC bo bM : Nat) (σ : Nat → Nat) (w : World) (vout : Value) (outs : List (List Int)) : Prop where
  bel : Below W0.heap.size W0 w
  fresh : ∀ b, w.heap.size ≤ b → σ b = 0
  old : ∀ b, b < W0.heap.size → σ b = 0
  bO : σ bo = 3
  cO : w.cell? ⟨bo, 0, none⟩ = some vout
  fO : w.frozen? ⟨bo, 0, none⟩ = false
  bC0 : σ bC = 0
  cC : w.cell? ⟨bC, 0, none⟩ = some (.pointer (some ⟨c, 0, none⟩))
  bM0 : σ bM = 0
  cM : w.cell? ⟨bM, 0, none⟩ = some (.func (.func 141) #[] #[.pointer (some ⟨bC, 0, none⟩), .pointer (some ⟨bo, 0, none⟩), .pointer (some ⟨bM, 0, none⟩)])
  ro : ∀ b, vout.ownBlock = some b → σ b = 1
  row : Kd.S (Kd.slice 3 (Kd.int .i64)) 49 w W0.heap.size (fun b => σ b = 1 ∨ σ b = 2) vout outs
theorem ElSt.olt {W0 w : World} {c bC bo bM : Nat} {σ : Nat → Nat} {vout : Value} {outs : List (List Int)} (h : ElSt W0 c bC bo bM σ w vout outs) : bo < w.heap.size := World.block_lt_of_cell? w ⟨bo, 0, none⟩ h.cO
theorem ElSt.below {W0 w w' : World} {c bC bo bM : Nat} {σ : Nat → Nat} {vout : Value} {outs : List (List Int)} (h : ElSt W0 c bC bo bM σ w vout outs) (hb : Below w.heap.size w w') : ElSt W0 c bC bo bM σ w' vout outs where
  bel := below_then h.bel h.bel.size hb
  fresh := fun b hlt => h.fresh b (Nat.le_trans hb.size hlt)
  old := h.old
  bO := h.bO
  cO := cell_move h.cO (fun hlt => hb.block _ hlt)
  fO := (World.frozen?_of_block (w := w) (w' := w') (a := ⟨bo, 0, none⟩) (hb.block _ h.olt)).trans h.fO
  bC0 := h.bC0
  cC := cell_move h.cC (fun hlt => hb.block _ hlt)
  bM0 := h.bM0
  cM := cell_move h.cM (fun hlt => hb.block _ hlt)
  ro := h.ro
  row := Kd.S_below h.row hb
structure Kp (vu : Value) (σ σ' : Nat → Nat) (w w' : World) : Prop where
  size : w.heap.size ≤ w'.heap.size
  role : ∀ b, b < w.heap.size → some b ≠ vu.ownBlock → σ' b = σ b
  keep : ∀ b, b < w.heap.size → σ b = 0 → w'.heap[b]? = w.heap[b]?
theorem Kp.pre {vu : Value} {σ σ' : Nat → Nat} {w W w' : World} (h : Kp vu σ σ' W w') (hb : Below w.heap.size w W) : Kp vu σ σ' w w' where
  size := Nat.le_trans hb.size h.size
  role := fun b hlt hne => h.role b (Nat.lt_of_lt_of_le hlt hb.size) hne
  keep := fun b hlt hr => (h.keep b (Nat.lt_of_lt_of_le hlt hb.size) hr).trans (hb.block b hlt)
structure Kq (σ σ' : Nat → Nat) (w w' : World) : Prop where
  size : w.heap.size ≤ w'.heap.size
  role : ∀ b, b < w.heap.size → σ' b = σ b
  keep : ∀ b, b < w.heap.size → σ b = 0 → w'.heap[b]? = w.heap[b]?
theorem Kq.of_below {σ : Nat → Nat} {w w' : World} (hb : Below w.heap.size w w') : Kq σ σ w w' := ⟨hb.size, fun _ _ => rfl, fun b hlt _ => hb.block b hlt⟩
theorem Kq.trans {σ σ' σ'' : Nat → Nat} {w w' w'' : World} (h : Kq σ σ' w w') (g : Kq σ' σ'' w' w'') : Kq σ σ'' w w'' where
  size := Nat.le_trans h.size g.size
  role := fun b hlt => (g.role b (Nat.lt_of_lt_of_le hlt h.size)).trans (h.role b hlt)
  keep := fun b hlt hr => (g.keep b (Nat.lt_of_lt_of_le hlt h.size) ((h.role b hlt).trans hr)).trans (h.keep b hlt hr)
theorem Kp.quiet {vu : Value} {σ σ' : Nat → Nat} {w W w' : World} (h : Kp vu σ σ' W w') (hb : Below w.heap.size w W) (hv : ∀ b, vu.ownBlock = some b → w.heap.size ≤ b) : Kq σ σ' w w' where
  size := Nat.le_trans hb.size h.size
  role := fun b hlt => h.role b (Nat.lt_of_lt_of_le hlt hb.size) (fun e => by have := hv b e.symm; omega)
  keep := fun b hlt hr => (h.keep b (Nat.lt_of_lt_of_le hlt hb.size) hr).trans (hb.block b hlt)
theorem Kq.kp {σ σ' : Nat → Nat} {w w' : World} (h : Kq σ σ' w w') (vu : Value) : Kp vu σ σ' w w' := ⟨h.size, fun b hlt _ => h.role b hlt, h.keep⟩
theorem Kq.row {σ σ' : Nat → Nat} {w w' : World} (h : Kq σ σ' w w') {e base : Nat} {v : Value} {p : List Int} {Z : Nat → Prop} (hp : Kd.R (Kd.int .i64) e w base (fun b => σ b = 0 ∧ Z b) v p) : Kd.R (Kd.int .i64) e w' base (fun b => σ' b = 0 ∧ Z b) v p :=
  Kd.R_mono (Kd.R_step (Kd.R_bound hp) (fun b hb hlt => h.keep b hlt hb.1.1)) (fun b hb => ⟨(h.role b hb.2.2.1).trans hb.1.1, hb.1.2⟩)
theorem Kq.cell {σ σ' : Nat → Nat} {w w' : World} (h : Kq σ σ' w w') {b : Nat} {v : Value} (hz : σ b = 0) (hc : w.cell? ⟨b, 0, none⟩ = some v) : w'.cell? ⟨b, 0, none⟩ = some v := cell_move hc (fun hlt => h.keep b hlt hz)
theorem ElSt.push {W0 w : World} {c bC bo bM : Nat} {σ : Nat → Nat} {vout vu : Value} {outs : List (List Int)} {u : List Int} {v1 : Value} {w1 : World} (h : ElSt W0 c bC bo bM σ w vout outs)
    (hu : ∀ b, vu.ownBlock = some b → σ b = 0 ∧ b < w.heap.size ∧ b ≠ bC ∧ b ≠ bM ∧ W0.heap.size ≤ b)
    (hS : Kd.S (Kd.slice 3 (Kd.int .i64)) 49 w1 W0.heap.size (fun b => σ b = 1 ∨ σ b = 2 ∨ some b = vu.ownBlock ∨ w.heap.size ≤ b) v1 (outs ++ [u])) (hb : Below W0.heap.size W0 w1) (hg : w.grownBy w1 vout.ownBlock)
    (hat : v1.ownBlock = vout.ownBlock ∨ ∃ b, v1.ownBlock = some b ∧ w.heap.size ≤ b) :
    ∃ σ', ElSt W0 c bC bo bM σ' (w1.setCell ⟨bo, 0, none⟩ v1) v1 (outs ++ [u]) ∧ Kp vu σ σ' w (w1.setCell ⟨bo, 0, none⟩ v1) := by
  have hbo := h.olt
  have hN : W0.heap.size ≤ bo := Classical.byContradiction fun hlt => by have := h.old bo (by omega); rw [h.bO] at this; cases this
  have hsz : (w1.setCell ⟨bo, 0, none⟩ v1).heap.size = w1.heap.size := by simp [World.setCell]
  have hnv : ∀ b, vout.ownBlock = some b → b ≠ bo := fun b hb e => by have := h.ro b hb; rw [e, h.bO] at this; cases this
  have hkeep : ∀ b, b < w.heap.size → b ≠ bo → some b ≠ vout.ownBlock → (w1.setCell ⟨bo, 0, none⟩ v1).heap[b]? = w.heap[b]? := fun b hb hne hr =>
    (Below.heap_setCell w1 ⟨bo, 0, none⟩ v1 b hne).trans (hg.block b hb hr)
  have hk0 : ∀ b, b < w.heap.size → σ b = 0 → (w1.setCell ⟨bo, 0, none⟩ v1).heap[b]? = w.heap[b]? := fun b hb hr =>
    hkeep b hb (fun e => by rw [e, h.bO] at hr; cases hr) (fun e => by have := h.ro b e.symm; omega)
  have hbor : w1.heap[bo]? = w.heap[bo]? := hg.block _ hbo (fun e => hnv bo e.symm rfl)
  have hv1lt : ∀ b, v1.ownBlock = some b → b < w1.heap.size := Kd.S_lt hS
  refine ⟨fun b => if w.heap.size ≤ b ∧ b < w1.heap.size then 1 else if some b = vu.ownBlock then 2 else σ b, {
    bel := hb.setCell hN _
    fresh := fun b hlt => ?_
    old := fun b hlt => ?_
    bO := ?_
    cO := World.cell?_setCell_same' _ _ _ (by rw [cell_move h.cO (fun _ => hbor)]; rfl)
    fO := by rw [World.frozen?_setCell]; exact (World.frozen?_of_block (w := w) (a := ⟨bo, 0, none⟩) hbor).trans h.fO
    bC0 := ?_
    cC := cell_move h.cC (fun hlt => hk0 _ hlt h.bC0)
    bM0 := ?_
    cM := cell_move h.cM (fun hlt => hk0 _ hlt h.bM0)
    ro := fun b hvb => ?_
    row := ?_ }, ⟨by rw [hsz]; exact hg.size, fun b hlt hne => ?_, hk0⟩⟩
  · rw [hsz] at hlt
    show (if w.heap.size ≤ b ∧ b < w1.heap.size then 1 else if some b = vu.ownBlock then 2 else σ b) = 0
    rw [if_neg (by omega), if_neg (fun e => by have := (hu b e.symm).2.1; have := hg.size; omega)]
    exact h.fresh b (Nat.le_trans hg.size hlt)
  · show (if w.heap.size ≤ b ∧ b < w1.heap.size then 1 else if some b = vu.ownBlock then 2 else σ b) = 0
    have := h.bel.size
    rw [if_neg (by omega), if_neg (fun e => by have := (hu b e.symm).2.2.2.2; omega)]
    exact h.old b hlt
  · show (if w.heap.size ≤ bo ∧ bo < w1.heap.size then 1 else if some bo = vu.ownBlock then 2 else σ bo) = 3
    rw [if_neg (by omega), if_neg (fun e => by have := (hu bo e.symm).1; rw [h.bO] at this; cases this)]
    exact h.bO
  · show (if w.heap.size ≤ bC ∧ bC < w1.heap.size then 1 else if some bC = vu.ownBlock then 2 else σ bC) = 0
    have hlt := World.block_lt_of_cell? w ⟨bC, 0, none⟩ h.cC
    rw [if_neg (by have : bC < w.heap.size := hlt; omega), if_neg (fun e => (hu bC e.symm).2.2.1 rfl)]
    exact h.bC0
  · show (if w.heap.size ≤ bM ∧ bM < w1.heap.size then 1 else if some bM = vu.ownBlock then 2 else σ bM) = 0
    have hlt := World.block_lt_of_cell? w ⟨bM, 0, none⟩ h.cM
    rw [if_neg (by have : bM < w.heap.size := hlt; omega), if_neg (fun e => (hu bM e.symm).2.2.2.1 rfl)]
    exact h.bM0
  · show (if w.heap.size ≤ b ∧ b < w1.heap.size then 1 else if some b = vu.ownBlock then 2 else σ b) = 1
    have h2 := hv1lt b hvb
    by_cases hle : w.heap.size ≤ b
    · rw [if_pos ⟨hle, h2⟩]
    · rw [if_neg (fun e => hle e.1)]
      rcases hat with e | ⟨b', e, hle'⟩
      · rw [e] at hvb
        have hr := h.ro b hvb
        rw [if_neg (fun e2 => by have := (hu b e2.symm).1; omega), hr]
      · rw [e] at hvb; have := Option.some.inj hvb; omega
  · have hS' := Kd.S_bound hS
    refine Kd.S_mono (Kd.S_far hS' (p := ⟨bo, 0, none⟩) (fun b hb2 e => ?_) v1) (fun b hb2 => ?_)
    · have e : b = bo := e
      rw [e] at hb2
      rcases hb2.1 with h1 | h1 | h1 | h1
      · rw [h.bO] at h1; cases h1
      · rw [h.bO] at h1; cases h1
      · have := (hu bo h1.symm).1; rw [h.bO] at this; cases this
      · omega
    · show (if w.heap.size ≤ b ∧ b < w1.heap.size then 1 else if some b = vu.ownBlock then 2 else σ b) = 1 ∨ (if w.heap.size ≤ b ∧ b < w1.heap.size then 1 else if some b = vu.ownBlock then 2 else σ b) = 2
      by_cases hle : w.heap.size ≤ b ∧ b < w1.heap.size
      · rw [if_pos hle]; exact .inl rfl
      · rw [if_neg hle]
        by_cases e : some b = vu.ownBlock
        · rw [if_pos e]; exact .inr rfl
        · rw [if_neg e]
          rcases hb2.1 with h1 | h1 | h1 | h1
          · exact .inl h1
          · exact .inr h1
          · exact absurd h1 e
          · exact absurd ⟨h1, hb2.2.2.1⟩ hle
  · show (if w.heap.size ≤ b ∧ b < w1.heap.size then 1 else if some b = vu.ownBlock then 2 else σ b) = σ b
    rw [if_neg (by omega), if_neg hne]
end Go.Proofs.Ytmbldnoepjmhhaa.Bs
end
section
/- Rows of perms that lie apart, by their values; a chain beside which something else is written. -/
namespace Go.Proofs.Ytmbldnoepjmhhaa.Bs
open Go.RowKit Go.Proofs.YtmbldnoepjmhhaaW.PrintWords Go.Proofs.YtmbldnoepjmhhaaW.PrintLast Go.Proofs.YtmbldnoepjmhhaaW.PrintMore Go.Proofs.Ytmbldnoepjmhhaa.Plain Go.Proofs.Ytmbldnoepjmhhaa.PBs
theorem S_vals {e base : Nat} {w : World} {ok : Nat → Prop} {v : Value} {all : List (List Int)} (h : Kd.S (Kd.slice 3 (Kd.int .i64)) e w base ok v all) :
    ∃ (f : Nat → Nat) (svs : List Sv), svs.length = all.length ∧ Kd.R kv e w base (fun b => some b = v.ownBlock) v svs ∧ (∀ b, v.ownBlock = some b → ok b) ∧
      ∀ (i : Nat) (sv : Sv) (p : List Int), svs[i]? = some sv → all[i]? = some p → Kd.R (Kd.int .i64) 3 w base (fun b => ok b ∧ some b ≠ v.ownBlock ∧ f b = i) (svE sv) p := by
  obtain ⟨f, h0, inner, ho, hr⟩ := h
  rw [List.length_zipIdx] at ho
  have hlen : inner.length = all.length := by
    have := hr.1
    rw [List.length_zipIdx] at this
    simpa [Kd.tag, Kd.slice] using this
  have key : ∀ i, i < all.length → ∃ sv : Sv, inner[i]? = some (svE sv) ∧ ∀ p, all[i]? = some p → Kd.R (Kd.int .i64) 3 w base (fun b => ok b ∧ some b ≠ v.ownBlock ∧ f b = i) (svE sv) p := by
    intro i hi
    have h2 := hr.2 i (all[i], i) (Kd.zip_at (List.getElem?_eq_getElem hi))
    obtain ⟨u, hcs, hR⟩ := h2
    have e1 : (inner.drop (i * 1)).take 1 = [u] := hcs
    obtain ⟨A, c, rfl⟩ := Kd.R_slice hR
    refine ⟨(A, all[i].length, c), ?_, fun p hp => ?_⟩
    · rw [Nat.mul_one] at e1
      have := congrArg (fun l => l[0]?) e1
      simp [List.getElem?_take, List.getElem?_drop] at this
      exact this
    · rw [List.getElem?_eq_getElem hi] at hp
      obtain rfl := Option.some.inj hp
      exact Kd.R_mono hR (fun b hb => ⟨hb.1.1, hb.1.2, hb.2⟩)
  refine ⟨f, (List.range all.length).map fun i => if hi : i < all.length then (key i hi).choose else (none, 0, 0), by simp, ⟨fun b hb => hb.symm, inner, ?_, ?_⟩, h0, fun i sv p hsv hp => ?_⟩
  · rw [List.length_map, List.length_range]; exact ho
  · refine ⟨by rw [List.length_map, List.length_range]; show inner.length = all.length * 1; omega, fun j p hj => ?_⟩
    have hjl : j < all.length := by
      have := (List.getElem?_eq_some_iff.1 hj).1
      simpa using this
    rw [List.getElem?_map, List.getElem?_range hjl, Option.map_some, dif_pos hjl] at hj
    obtain rfl := Option.some.inj hj
    have h3 := (key j hjl).choose_spec.1
    have hji : j < inner.length := by omega
    show (inner.drop (j * 1)).take 1 = [svE _]
    rw [Nat.mul_one, List.drop_eq_getElem_cons hji]
    have h4 : inner[j] = svE (key j hjl).choose := by
      have := List.getElem?_eq_getElem hji
      rw [h3] at this
      exact (Option.some.inj this).symm
    exact congrArg (fun z => [z]) h4
  · have hil := (List.getElem?_eq_some_iff.1 hp).1
    rw [List.getElem?_map, List.getElem?_range hil, Option.map_some, dif_pos hil] at hsv
    obtain rfl := Option.some.inj hsv
    exact (key i hil).choose_spec.2 p hp
theorem S_pack {e base : Nat} {w : World} {ok : Nat → Prop} {v : Value} {all : List (List Int)} {svs : List Sv} (f : Nat → Nat) (hlen : svs.length = all.length) {okv : Nat → Prop} (hR : Kd.R kv e w base okv v svs) (hok : ∀ b, v.ownBlock = some b → ok b)
    (h : ∀ (i : Nat) (sv : Sv) (p : List Int), svs[i]? = some sv → all[i]? = some p → Kd.R (Kd.int .i64) 3 w base (fun b => ok b ∧ some b ≠ v.ownBlock ∧ f b = i) (svE sv) p) : Kd.S (Kd.slice 3 (Kd.int .i64)) e w base ok v all := by
  obtain ⟨_, inner, ho, hr⟩ := hR
  refine ⟨f, hok, inner, by rw [List.length_zipIdx, ← hlen]; exact ho, by rw [List.length_zipIdx, ← hlen]; exact hr.1, fun j p hj => ?_⟩
  rw [List.getElem?_zipIdx, Nat.zero_add] at hj
  obtain ⟨x, hx, rfl⟩ := Option.map_eq_some_iff.1 hj
  have hjl : j < svs.length := by rw [hlen]; exact (List.getElem?_eq_some_iff.1 hx).1
  have h2 := hr.2 j svs[j] (List.getElem?_eq_getElem hjl)
  refine ⟨svE svs[j], h2, Kd.R_mono (h j _ x (List.getElem?_eq_getElem hjl) hx) (fun b hb => ⟨⟨hb.1, hb.2.1⟩, hb.2.2⟩)⟩
theorem ChainAt.beside {ρ ρ' : Nat → Nat} {w w' : World} {base c capL : Nat} {la : Option Addr} {C : Ch} {d : Nat → LD} (h : ChainAt ρ w base c la capL C d) (hs : w.heap.size ≤ w'.heap.size) (hρ : ∀ b, b < w.heap.size → ρ' b = ρ b)
    (hf : ∀ b, w'.heap.size ≤ b → ρ' b = 0) (hrb : ∀ b, ρ' b ≠ 0 → base ≤ b) (hm : ∀ b, b < w.heap.size → ρ b < 1000 → w'.heap[b]? = w.heap[b]?) : ChainAt ρ' w' base c la capL C d where
  len := h.len
  small := h.small
  fresh := hf
  rb := hrb
  rc := (hρ c (World.block_lt_of_cell? w ⟨c, 0, none⟩ h.hn)).trans h.rc
  hn := cell_move h.hn (fun hlt => hm _ hlt (by rw [h.rc]; omega))
  hl := cell_move h.hl (fun hlt => hm _ hlt (by rw [h.rc]; omega))
  hcap := h.hcap
  ls := fun h0 => by
    obtain ⟨b, e, hr, hc⟩ := h.ls h0
    refine ⟨b, e, (hρ b ?_).trans hr, fun k hk => cell_move (hc k hk) (fun hlt => hm _ hlt (by rw [hr]; omega))⟩
    have : 0 < C.n := h0
    exact World.block_lt_of_cell? w ⟨b, 0, none⟩ (hc 0 this)
  lv := fun k L hL => by
    have hk := h.klt hL
    have := h.small
    exact (h.lv k L hL).move hρ (fun b hlt hr => hm b hlt (by omega))
end Go.Proofs.Ytmbldnoepjmhhaa.Bs
end
section
/- The walk of (*Chain).Index. -/
namespace Go.Proofs.Ytmbldnoepjmhhaa.Bs
open Go.RowKit Go.Proofs.YtmbldnoepjmhhaaW.PrintWords Go.Proofs.YtmbldnoepjmhhaaW.PrintLast Go.Proofs.YtmbldnoepjmhhaaW.PrintMore Go.Proofs.Ytmbldnoepjmhhaa.Plain Go.Proofs.Ytmbldnoepjmhhaa.PBs
attribute [local go_sem] max2_int min2_int max_two min_two max_three min_three max_four min_four
theorem at_some {l : List Int} {x y : Int} (h : at_ l x = some y) : 0 ≤ x ∧ x < (l.length : Int) ∧ rd l x = y := by
  unfold at_ at h
  split at h
  · rename_i h0
    obtain ⟨hlt, e⟩ := List.getElem?_eq_some_iff.1 h
    refine ⟨h0, by omega, ?_⟩
    show l.getD x.toNat 0 = y
    rw [List.getD_eq_getElem?_getD, h]; rfl
  · cases h
set_option maxHeartbeats 16000000 in
set_option maxRecDepth 100000 in
theorem index_any {ρ : Nat → Nat} {w : World} {base c capL : Nat} {la : Option Addr} {C : Ch} {d : Nat → LD} {p : List Int} {v : Value} {r1 : Int} {r2 : Bool} (hR : ChainAt ρ w base c la capL C d) (hp : PermAt w v p) (h : indexM C p = some (r1, r2)) :
    Calls Try.prog 108 #[.pointer (some ⟨c, 0, none⟩), v] w fun e w' => e = .returned (.tuple #[.int .i64 r1, .bool r2]) ∧ Below w.heap.size w w' := by
  have HR := Aside0.mk hR
  have HP := Aside0.mk hp
  have hn := hR.hn
  have hl := hR.hl
  have HSM := Aside0.mk hR.small
  have HCAP := hR.hcap
  have H := Aside0.mk h
  obtain ⟨Ap, cp, rfl, hcp, hCp⟩ := hp
  clear hR h hcp hCp
  go_enter Try.func108, Try.ntmps108
  go_wp2_with (go_at_call 102; (refine (id_any C.n (by have := HSM.out; omega) _).mono ?_); rintro e w1 ⟨v1, rfl, hr1, hb1⟩; have HU1 := Aside0.mk (PermAt.of_R hr1); have HB1 := Aside0.mk hb1; have hl1 := cell_move hl (fun hlt => hb1.block _ hlt); obtain ⟨A1, c1, e1⟩ := Kd.R_slice hr1; subst e1; clear hr1 hb1)
  have HU0 := HU1
  clear HU1
  go_loopg [6, 7, 23] 30 (fun kq v6 v7 v23 w' => ∃ (k n_ : Nat) (nn : Int) (u_ : List Int), v23 = .int .i64 (k : Int) ∧ v6 = .int .i64 nn ∧ Aside0 (PermAt w' v7 u_) ∧ Aside0 (indexL C p kq k u_ nn = some (r1, r2)) ∧ Aside0 (Below w.heap.size w w') ∧ Aside0 (k ≤ 20))
  case atStart => exact ⟨0, 0, 0, idL C.n, (by first | rfl | (simp; done)), (by first | rfl | (simp; done)), HU0, H, HB1, ⟨by omega⟩⟩
  case round =>
    clear H HU0 HB1 hl1
    obtain ⟨k, _, nn, u_, rfl, rfl, HU, HA, HB, HK⟩ := hrel
    cases gk with
    | zero => exact absurd HA.out (by simp [indexL])
    | succ q1_ =>
      have h := HA.out
      clear HA
      rw [indexL] at h
      have R := HR.out.below HB.out
      by_cases hk : k < C.n
      · rw [if_pos hk] at h
        replace h := Option.bind_eq_some_iff.1 h
        obtain ⟨L, hL, h⟩ := h
        replace h := Option.bind_eq_some_iff.1 h
        obtain ⟨pk, hpk, h⟩ := h
        have HOL : Aside0 (L.orbit.length < 1000) := by
          by_cases e : L.orbit.length < 1000
          · exact ⟨e⟩
          · rw [if_neg e] at h; cases h
        rw [if_pos HOL.out] at h
        replace h := Option.bind_eq_some_iff.1 h
        obtain ⟨⟨n2, a2⟩, h1, h⟩ := h
        obtain ⟨bb, hbb⟩ : ∃ bb, belowF C (k + 1) = bb := ⟨_, rfl⟩
        have HBBB := Aside0.mk hbb
        have h1 : idxIn (belowF C (k + 1)) u_ pk L.orbit nn (-1) = some (n2, a2) := h1
        rw [hbb] at h1
        clear hbb
        have H1 := Aside0.mk h1
        have H := Aside0.mk h
        have HL := Aside0.mk hL
        have HKN := Aside0.mk hk
        have hk1 : (k < C.n) = True := eq_true hk
        have hk2 : ((k : Int) < (C.n : Int)) = True := eq_true (by omega)
        have hk3 : (0 ≤ (k : Int)) = True := eq_true (by omega)
        obtain ⟨bls, ela, _, hcl⟩ := R.ls (by omega)
        subst ela
        have hlev := hcl k hk
        obtain ⟨Ao, co, hco, hlo, hCo⟩ := (R.lv k L hL).orbit_at
        have HCO := Aside0.mk hCo
        have HLO := Aside0.mk hlo
        have HPC := Aside0.mk (PermAt.below HP.out HB.out)
        obtain ⟨hpl, hpe⟩ := List.getElem?_eq_some_iff.1 hpk
        have HPK : Aside0 (rd p (k : Int) = pk) := ⟨by show p.getD k 0 = pk; rw [List.getD_eq_getElem?_getD, hpk]; rfl⟩
        have HPL := Aside0.mk hpl
        obtain ⟨Au, cu, eu, _, hCu⟩ := HU.out
        subst eu
        have HCU := Aside0.mk hCu
        clear h h1 hL hcl hpk hpe hpl hCo hlo hCu R hk
        obtain ⟨wo, hwo⟩ : ∃ wo : World, wo = wr := ⟨_, rfl⟩
        subst hwo
        go_wp2
        go_loopg [6, 10, 34] L.orbit.length (fun kq v6 v10 v34 w' => ∃ (j : Nat) (n3 a3 : Int), v34 = .int .i64 (j : Int) ∧ v6 = .int .i64 n3 ∧ v10 = .int .i64 a3 ∧ Aside0 (idxIn bb u_ pk (L.orbit.drop j) n3 a3 = some (n2, a2)) ∧ Aside0 (Below wo.heap.size wo w') ∧ Aside0 (j + kq = L.orbit.length))
        case atStart => exact ⟨0, nn, -1, (by first | rfl | (simp; done)), rfl, rfl, H1, ⟨by repeat (first | (with_reducible first | exact Below.refl _ _ | apply below_alloc | apply pw_below_drewN | apply below_drew1) | exact Below.refl _ _)⟩, ⟨by omega⟩⟩
        case round =>
          clear H1 HPC
          have HU0 := HU
          clear HU
          obtain ⟨j, n3, a3, rfl, rfl, rfl, HA, HB2, HJ⟩ := hrel
          have h := HA.out
          clear HA
          cases gk with
          | zero =>
            have hj : (j < L.orbit.length) = False := eq_false (by have := HJ.out; omega)
            rw [List.drop_eq_nil_of_le (by have := HJ.out; omega)] at h
            obtain ⟨rfl, rfl⟩ := Prod.mk.inj (Option.some.inj h)
            clear h
            have h := H.out
            clear H
            have R := HR.out.below (below_step HB.out HB2.out)
            by_cases ca : a3 < 0
            · rw [if_pos ca] at h
              obtain ⟨rfl, rfl⟩ := Prod.mk.inj (Option.some.inj h)
              have cab : decide (a3 < 0) = true := decide_eq_true ca
              clear h ca R
              go_wp2
              go_ret2
              exact ⟨rfl, below_step HB.out HB2.out⟩
            · rw [if_neg ca] at h
              have cab : decide (a3 < 0) = false := decide_eq_false ca
              replace h := Option.bind_eq_some_iff.1 h
              obtain ⟨o, hw, h⟩ := h
              replace h := Option.bind_eq_some_iff.1 h
              obtain ⟨wd, ho, h⟩ := h
              subst ho
              replace h := Option.bind_eq_some_iff.1 h
              obtain ⟨u', h2, h⟩ := h
              obtain ⟨x0, L_, hL_, ho⟩ := word_some hw
              have LV_ := R.lv k L_ hL_
              obtain ⟨X, rfl⟩ : ∃ X : Nat, a3 = (X : Int) := ⟨a3.toNat, by omega⟩
              rw [Int.toNat_natCast] at ho
              obtain ⟨hxn, wv, hv, _, hwd⟩ := LV_.word ho
              obtain ⟨aw, cw, ew, hcw, hCw⟩ := hwd.1.addr hwd.2
              rw [ew] at hv
              have hrow := LV_.c2
              have q1 : (0 ≤ (X : Int)) = True := eq_true (by omega)
              have q2 : ((X : Int) < (C.n : Int)) = True := eq_true (by omega)
              have A2 := Aside0.mk h2
              have H := Aside0.mk h
              have HUU : Aside0 (PermAt wr (.slice Au u_.length cu) u_) := ⟨PermAt.below HU0.out HB2.out⟩
              have wk : wrap64 ((k : Int) + 1) = ((k + 1 : Nat) : Int) := (IntWalk.wrap64_in _ ⟨by omega, by have := HKN.out; have := HSM.out; omega⟩).trans (by omega)
              clear h h2 hwd ho hL_ LV_ hw ew ca R
              go_wp2_with (go_at_call 131; (refine (mul_any A2.out ⟨_, _, rfl, hcw, ?s1⟩ HUU.out).mono ?_); (case s1 => exact hCw); rintro e w6 ⟨v6, rfl, hr6, hb6⟩; have HU6 := Aside0.mk (PermAt.of_R hr6); have HB6 := Aside0.mk (below_step (below_step HB.out HB2.out) hb6); obtain ⟨A6, c6, rfl⟩ := Kd.R_slice hr6; clear hr6 hb6)
              go_roundg q1_
              case measure => exact Nat.lt_succ_self _
              case rel => exact ⟨k + 1, 0, n3, u', (by first | (rw [wk]; done) | rfl), rfl, HU6, H, HB6, ⟨by have := HKN.out; have := HSM.out; omega⟩⟩
          | succ m1 =>
            have hjl : j < L.orbit.length := by have := HJ.out; omega
            have hj : (j < L.orbit.length) = True := eq_true hjl
            have hj2 : ((j : Int) < (L.orbit.length : Int)) = True := eq_true (by omega)
            have hj0 : (0 ≤ (j : Int)) = True := eq_true (by omega)
            have HJ2 : Aside0 (j + 1 + m1 = L.orbit.length) := ⟨by have := HJ.out; omega⟩
            rw [List.drop_eq_getElem_cons hjl, idxIn] at h
            replace h := Option.bind_eq_some_iff.1 h
            obtain ⟨ux, hux, h⟩ := h
            obtain ⟨hx0, hxl, hxe⟩ := at_some hux
            obtain ⟨ado, eo, hcx⟩ := Kd.at_int (Kd.C_below HCO.out HB2.out) (j : Int) (by omega) (by omega)
            subst eo
            rw [rd_get _ _ hjl, Int.toNat_natCast] at hcx
            obtain ⟨X, hX⟩ : ∃ X : Nat, L.orbit[j] = (X : Int) := ⟨L.orbit[j].toNat, by omega⟩
            rw [hX] at h hcx hx0 hxl hxe
            obtain ⟨adu, eu, hcu⟩ := Kd.at_int (Kd.C_below HCU.out HB2.out) (X : Int) hx0 hxl
            subst eu
            rw [hxe, Int.toNat_natCast] at hcu
            obtain ⟨_, _, ep, _, hCp⟩ := PermAt.below HP.out (below_step HB.out HB2.out)
            injection ep with e1 _ e3
            subst e1; subst e3
            obtain ⟨adp, ep, hcp⟩ := Kd.at_int hCp (k : Int) (by omega) (by have := HPL.out; omega)
            subst ep
            rw [HPK.out, Int.toNat_natCast] at hcp
            have q1 : (0 ≤ (X : Int)) = True := eq_true hx0
            have q2 : ((X : Int) < (u_.length : Int)) = True := eq_true hxl
            have q3 : ((k : Int) < (p.length : Int)) = True := eq_true (by have := HPL.out; omega)
            have wi : wrap64 ((j : Int) + 1) = ((j + 1 : Nat) : Int) := (IntWalk.wrap64_in _ ⟨by omega, by have := HOL.out; omega⟩).trans (by omega)
            have HWK : Aside0 (wrap64 ((k : Int) + 1) = ((k + 1 : Nat) : Int)) := ⟨(IntWalk.wrap64_in _ ⟨by omega, by have := HKN.out; have := HSM.out; omega⟩).trans (by omega)⟩
            have H := Aside0.mk h
            clear h hux hX hxe hx0 hxl hCp
            by_cases c1 : ux < pk
            · have c1b : decide (ux < pk) = true := decide_eq_true c1
              rw [if_pos c1] at H
              by_cases c2 : ux = pk
              · omega
              · have c2b : (ux == pk) = false := beq_eq_false_iff_ne.mpr c2
                rw [if_neg c2] at H
                clear c1 c2
                go_wp2
                go_quiet (fail)
                go_wp2_with (go_at_call 119; rw [HWK.out]; (refine (below_any ((HR.out.below (below_step HB.out HB2.out)).below bel0) (k + 1) HKN.out).mono ?_); rintro e w9 ⟨rfl, hb9⟩; rw [HBBB.out]; have HB9 := Aside0.mk (below_step HB2.out (below_step (w := wr) bel0 hb9)); have hcu9 := (World.cell?_of_block (w := wr) (w' := w9) (hb9.block _ (World.block_lt_of_cell? wr _ hcu))).trans hcu; have hcp9 := (World.cell?_of_block (w := wr) (w' := w9) (hb9.block _ (World.block_lt_of_cell? wr _ hcp))).trans hcp; clear hb9)
                go_quiet (fail)
                go_wp2
                go_roundg m1
                case measure => exact Nat.lt_succ_self _
                case rel => exact ⟨j + 1, _, _, (by first | (rw [wi]; done) | rfl), rfl, rfl, H, ⟨bel HB9.out⟩, HJ2⟩
            · have c1b : decide (ux < pk) = false := decide_eq_false c1
              rw [if_neg c1] at H
              by_cases c2 : ux = pk
              · have c2b : (ux == pk) = true := beq_iff_eq.mpr c2
                rw [if_pos c2] at H
                clear c1 c2
                go_wp2
                go_quiet (fail)
                go_wp2
                go_quiet (fail)
                go_wp2
                go_roundg m1
                case measure => exact Nat.lt_succ_self _
                case rel => exact ⟨j + 1, _, _, (by first | (rw [wi]; done) | rfl), rfl, rfl, H, ⟨bel HB2.out⟩, HJ2⟩
              · have c2b : (ux == pk) = false := beq_eq_false_iff_ne.mpr c2
                rw [if_neg c2] at H
                clear c1 c2
                go_wp2
                go_quiet (fail)
                go_wp2
                go_quiet (fail)
                go_wp2
                go_roundg m1
                case measure => exact Nat.lt_succ_self _
                case rel => exact ⟨j + 1, _, _, (by first | (rw [wi]; done) | rfl), rfl, rfl, H, ⟨bel HB2.out⟩, HJ2⟩
      · rw [if_neg hk] at h
        obtain ⟨rfl, rfl⟩ := Prod.mk.inj (Option.some.inj h)
        have hk1 : (k < C.n) = False := eq_false hk
        clear h R hk
        go_wp2
        go_ret2
        exact ⟨rfl, HB.out⟩
end Go.Proofs.Ytmbldnoepjmhhaa.Bs
end
section
/- The walk of (*Chain).least. -/
namespace Go.Proofs.Ytmbldnoepjmhhaa.Bs
open Go.RowKit Go.Proofs.YtmbldnoepjmhhaaW.PrintWords Go.Proofs.YtmbldnoepjmhhaaW.PrintLast Go.Proofs.YtmbldnoepjmhhaaW.PrintMore Go.Proofs.Ytmbldnoepjmhhaa.Plain Go.Proofs.Ytmbldnoepjmhhaa.PBs
attribute [local go_sem] max2_int min2_int max_two min_two max_three min_three max_four min_four
set_option maxHeartbeats 16000000 in
set_option maxRecDepth 100000 in
theorem least_any {ρ : Nat → Nat} {w : World} {base c capL : Nat} {la : Option Addr} {C : Ch} {d : Nat → LD} {u r : List Int} {v : Value} {k0 : Nat} (hR : ChainAt ρ w base c la capL C d) (hp : PermAt w v u) (hk0 : k0 < C.n) (q0 : Nat) (hq0 : q0 ≤ 30) (h : leastM C q0 k0 u = some r) :
    Calls Try.prog 124 #[.pointer (some ⟨c, 0, none⟩), .int .i64 (k0 : Int), v] w fun e w' => ∃ v', e = .returned v' ∧ Kd.R (Kd.int .i64) 3 w' w.heap.size (fun _ => True) v' r ∧ Below w.heap.size w w' := by
  have HR := Aside0.mk hR
  have HU0 := Aside0.mk hp
  have HSM := Aside0.mk hR.small
  have HCAP := hR.hcap
  have H := Aside0.mk h
  have HK0 := Aside0.mk hk0
  clear hR h hp hk0
  go_enter Try.func124, Try.ntmps124
  go_wp2
  go_loopg [1, 2] q0 (fun kq v1 v2 w' => ∃ (k : Nat) (u_ : List Int), v1 = .int .i64 (k : Int) ∧ Aside0 (PermAt w' v2 u_) ∧ Aside0 (k0 < k → Kd.R (Kd.int .i64) 3 w' w.heap.size (fun _ => True) v2 u_) ∧ Aside0 (leastM C kq k u_ = some r) ∧ Aside0 (Below w.heap.size w w') ∧ Aside0 (k ≤ C.n))
  case atStart => exact ⟨k0, u, rfl, HU0, ⟨fun hlt => absurd hlt (Nat.lt_irrefl _)⟩, H, ⟨Below.refl _ _⟩, ⟨Nat.le_of_lt HK0.out⟩⟩
  case round =>
    clear H HU0
    obtain ⟨k, u_, rfl, HU, HUR, HA, HB, HK⟩ := hrel
    cases gk with
    | zero => exact absurd HA.out (by simp [leastM])
    | succ q1_ =>
      have h := HA.out
      clear HA
      rw [leastM] at h
      have R := HR.out.below HB.out
      have hnr := R.hn
      have hlr := R.hl
      by_cases hk : k < C.n
      · rw [if_pos hk] at h
        replace h := Option.bind_eq_some_iff.1 h
        obtain ⟨L, hL, h⟩ := h
        have HOL : Aside0 (L.orbit.length < 1000) := by
          by_cases e : L.orbit.length < 1000
          · exact ⟨e⟩
          · rw [if_neg e] at h; cases h
        rw [if_pos HOL.out] at h
        replace h := Option.bind_eq_some_iff.1 h
        obtain ⟨b0, hb0, h⟩ := h
        replace h := Option.bind_eq_some_iff.1 h
        obtain ⟨b, h1, h⟩ := h
        have H1 := Aside0.mk h1
        have H := Aside0.mk h
        have HKN := Aside0.mk hk
        have hk1 : (k < C.n) = True := eq_true hk
        have hk2 : ((k : Int) < (C.n : Int)) = True := eq_true (by omega)
        have hk3 : (0 ≤ (k : Int)) = True := eq_true (by omega)
        obtain ⟨bls, ela, _, hcl⟩ := R.ls (by omega)
        subst ela
        have hlev := hcl k hk
        obtain ⟨Ao, co, hco, hlo, hCo⟩ := (R.lv k L hL).orbit_at
        obtain ⟨hol, hoe⟩ := List.getElem?_eq_some_iff.1 hb0
        have ho0 : (0 < L.orbit.length) = True := eq_true hol
        have ho1 : ((0 : Int) < (L.orbit.length : Int)) = True := eq_true (by omega)
        obtain ⟨ad0, eo, hc00⟩ := Kd.at_int hCo (0 : Int) (by omega) (by omega)
        subst eo
        rw [show rd L.orbit 0 = b0 from by show L.orbit.getD (0 : Int).toNat 0 = b0; rw [List.getD_eq_getElem?_getD]; show (L.orbit[0]?).getD 0 = b0; rw [hb0]; rfl] at hc00
        have hc00 : wr.cell? ad0 = some (.int .i64 b0) := hc00
        have HCO := Aside0.mk hCo
        have HLO := Aside0.mk hlo
        obtain ⟨Au, cu, eu, _, hCu⟩ := HU.out
        subst eu
        have HCU := Aside0.mk hCu
        clear h h1 hL hcl hb0 hol hoe hCo hlo hCu R hk
        obtain ⟨wo, hwo⟩ : ∃ wo : World, wo = wr := ⟨_, rfl⟩
        subst hwo
        go_wp2
        go_loopg [8, 39] L.orbit.length (fun kq v5 v34 w' => ∃ (j : Nat) (b3 : Int), v34 = .int .i64 (j : Int) ∧ v5 = .int .i64 b3 ∧ Aside0 (bestO u_ (L.orbit.drop j) b3 = some b) ∧ Aside0 (Below wo.heap.size wo w') ∧ Aside0 (j + kq = L.orbit.length))
        case atStart => exact ⟨0, b0, (by first | rfl | (simp; done)), rfl, H1, ⟨by repeat (first | (with_reducible first | exact Below.refl _ _ | apply below_alloc | apply pw_below_drewN | apply below_drew1) | exact Below.refl _ _)⟩, ⟨by omega⟩⟩
        case round =>
          clear H1 hc00
          have HU0 := HU
          clear HU
          obtain ⟨j, b3, rfl, rfl, HA, HB2, HJ⟩ := hrel
          have h := HA.out
          clear HA
          cases gk with
          | zero =>
            have hj : (j < L.orbit.length) = False := eq_false (by have := HJ.out; omega)
            rw [List.drop_eq_nil_of_le (by have := HJ.out; omega)] at h
            replace h := Option.some.inj h
            subst h
            have h := H.out
            clear H
            have R := HR.out.below (below_step HB.out HB2.out)
            replace h := Option.bind_eq_some_iff.1 h
            obtain ⟨o, hw, h⟩ := h
            replace h := Option.bind_eq_some_iff.1 h
            obtain ⟨wd, ho, h⟩ := h
            subst ho
            replace h := Option.bind_eq_some_iff.1 h
            obtain ⟨u', h2, h⟩ := h
            obtain ⟨x0, L_, hL_, ho⟩ := word_some hw
            have LV_ := R.lv k L_ hL_
            obtain ⟨X, rfl⟩ : ∃ X : Nat, b3 = (X : Int) := ⟨b3.toNat, by omega⟩
            rw [Int.toNat_natCast] at ho
            obtain ⟨hxn, wv, hv, _, hwd⟩ := LV_.word ho
            obtain ⟨aw, cw, ew, hcw, hCw⟩ := hwd.1.addr hwd.2
            rw [ew] at hv
            have hrow := LV_.c2
            have q1 : (0 ≤ (X : Int)) = True := eq_true (by omega)
            have q2 : ((X : Int) < (C.n : Int)) = True := eq_true (by omega)
            have A2 := Aside0.mk h2
            have H := Aside0.mk h
            have HUU : Aside0 (PermAt wr (.slice Au u_.length cu) u_) := ⟨PermAt.below HU0.out HB2.out⟩
            have wk : wrap64 ((k : Int) + 1) = ((k + 1 : Nat) : Int) := (IntWalk.wrap64_in _ ⟨by omega, by have := HKN.out; have := HSM.out; omega⟩).trans (by omega)
            clear h h2 hwd ho hL_ LV_ hw ew R
            go_wp2_with (go_at_call 131; (refine (mul_any A2.out ⟨_, _, rfl, hcw, ?s1⟩ HUU.out).mono ?_); (case s1 => exact hCw); rintro e w6 ⟨v6, rfl, hr6, hb6⟩; have HU6 := Aside0.mk (PermAt.of_R hr6); have HR6 := Aside0.mk (Kd.R_lower hr6 (below_step HB.out HB2.out).size); have HB6 := Aside0.mk (below_step (below_step HB.out HB2.out) hb6); obtain ⟨A6, c6, rfl⟩ := Kd.R_slice hr6; clear hr6 hb6)
            go_roundg q1_
            case measure => exact Nat.lt_succ_self _
            case rel => exact ⟨k + 1, u', (by first | (rw [wk]; done) | rfl), HU6, ⟨fun _ => HR6.out⟩, H, HB6, ⟨HKN.out⟩⟩
          | succ m1 =>
            have hjl : j < L.orbit.length := by have := HJ.out; omega
            have hj : (j < L.orbit.length) = True := eq_true hjl
            have hj2 : ((j : Int) < (L.orbit.length : Int)) = True := eq_true (by omega)
            have hj0 : (0 ≤ (j : Int)) = True := eq_true (by omega)
            have HJ2 : Aside0 (j + 1 + m1 = L.orbit.length) := ⟨by have := HJ.out; omega⟩
            rw [List.drop_eq_getElem_cons hjl, bestO] at h
            replace h := Option.bind_eq_some_iff.1 h
            obtain ⟨ux, hux, h⟩ := h
            replace h := Option.bind_eq_some_iff.1 h
            obtain ⟨ub, hub, h⟩ := h
            obtain ⟨hx0, hxl, hxe⟩ := at_some hux
            obtain ⟨hy0, hyl, hye⟩ := at_some hub
            obtain ⟨ado, eo, hcx⟩ := Kd.at_int (Kd.C_below HCO.out HB2.out) (j : Int) (by omega) (by omega)
            injection eo with eo
            subst eo
            rw [rd_get _ _ hjl, Int.toNat_natCast] at hcx
            obtain ⟨X, hX⟩ : ∃ X : Nat, L.orbit[j] = (X : Int) := ⟨L.orbit[j].toNat, by omega⟩
            rw [hX] at h hcx hx0 hxl hxe
            obtain ⟨Y, rfl⟩ : ∃ Y : Nat, b3 = (Y : Int) := ⟨b3.toNat, by omega⟩
            obtain ⟨adu, eu, hcu⟩ := Kd.at_int (Kd.C_below HCU.out HB2.out) (X : Int) hx0 hxl
            obtain ⟨ady, ey, hcy⟩ := Kd.at_int (Kd.C_below HCU.out HB2.out) (Y : Int) hy0 hyl
            subst eu
            injection ey with ey
            subst ey
            rw [hxe, Int.toNat_natCast] at hcu
            rw [hye, Int.toNat_natCast] at hcy
            have q1 : (0 ≤ (X : Int)) = True := eq_true hx0
            have q2 : ((X : Int) < (u_.length : Int)) = True := eq_true hxl
            have q3 : (0 ≤ (Y : Int)) = True := eq_true hy0
            have q4 : ((Y : Int) < (u_.length : Int)) = True := eq_true hyl
            have wi : wrap64 ((j : Int) + 1) = ((j + 1 : Nat) : Int) := (IntWalk.wrap64_in _ ⟨by omega, by have := HOL.out; omega⟩).trans (by omega)
            have H := Aside0.mk h
            clear h hux hub hX hxe hx0 hxl hye hy0 hyl
            by_cases c1 : ux < ub
            · have c1b : decide (ux < ub) = true := decide_eq_true c1
              rw [if_pos c1] at H
              clear c1
              go_wp2
              go_quiet (fail)
              go_wp2
              go_roundg m1
              case measure => exact Nat.lt_succ_self _
              case rel => exact ⟨j + 1, _, (by first | (rw [wi]; done) | rfl), rfl, H, ⟨bel HB2.out⟩, HJ2⟩
            · have c1b : decide (ux < ub) = false := decide_eq_false c1
              rw [if_neg c1] at H
              clear c1
              go_wp2
              go_quiet (fail)
              go_wp2
              go_roundg m1
              case measure => exact Nat.lt_succ_self _
              case rel => exact ⟨j + 1, _, (by first | (rw [wi]; done) | rfl), rfl, H, ⟨bel HB2.out⟩, HJ2⟩
      · rw [if_neg hk] at h
        cases h
        have hk1 : (k < C.n) = False := eq_false hk
        have HUF := Aside0.mk (HUR.out (by have := HK0.out; omega))
        obtain ⟨Au, cu, eu⟩ := Kd.R_slice HUF.out
        subst eu
        clear R hk
        go_wp2
        go_ret
        exact ⟨_, rfl, HUF.out, HB.out⟩
end Go.Proofs.Ytmbldnoepjmhhaa.Bs
end
section
/- The walk of galoisref23.Put: a list with one more. -/
namespace Go.Proofs.Ytmbldnoepjmhhaa.Bs
open Go.RowKit Go.Proofs.YtmbldnoepjmhhaaW.PrintWords Go.Proofs.YtmbldnoepjmhhaaW.PrintLast Go.Proofs.YtmbldnoepjmhhaaW.PrintMore Go.Proofs.Ytmbldnoepjmhhaa.Plain Go.Proofs.Ytmbldnoepjmhhaa.PBs
theorem C_of_kv {e base : Nat} {w : World} {ok : Nat → Prop} {A : Option Addr} {n c : Nat} {svs : List Sv} {ls : List (List Int)} (hR : Kd.R kv e w base ok (.slice A n c) svs) (hlen : svs.length = ls.length)
    (h : ∀ (i : Nat) (sv : Sv) (p : List Int), svs[i]? = some sv → ls[i]? = some p → PermAt w (svE sv) p) : Kd.C (Kd.slice 3 (Kd.int .i64)) w A ls.length ls := by
  obtain ⟨_, hle, hC⟩ := Kd.R_reads' hR
  obtain ⟨h1, h2, h3⟩ := hC
  refine ⟨rfl, hlen ▸ h2, fun hp => ?_⟩
  obtain ⟨ad, rfl, hc⟩ := h3 (by omega)
  refine ⟨ad, rfl, fun j p hj => ?_⟩
  have hjl : j < svs.length := by rw [hlen]; exact (List.getElem?_eq_some_iff.1 hj).1
  obtain ⟨c1, hcl, hK, hcc⟩ := hc j svs[j] (List.getElem?_eq_getElem hjl)
  refine ⟨c1, hcl, ?_, hcc⟩
  have hK : c1 = [svE svs[j]] := hK
  obtain ⟨A1, c2, e1, hl1, hC1⟩ := h j svs[j] p (List.getElem?_eq_getElem hjl) hj
  exact ⟨A1, c2, by rw [hK, e1], hl1, hC1⟩
theorem kv_cell {e base g n cap : Nat} {w : World} {ok : Nat → Prop} {svs : List Sv} (h : Kd.R kv e w base ok (.slice (some ⟨g, 0, none⟩) n cap) svs) (i : Nat) (hi : i < n) :
    w.cell? ⟨g, i, none⟩ = some (svE (svs.getD i (none, 0, 0))) ∧ w.frozen? ⟨g, i, none⟩ = false := by
  obtain ⟨c, hc, hM, hcc, hf⟩ := Kd.R_elem h (none, 0, 0) (i : Int) (by omega) (by omega)
  rw [Int.toNat_natCast] at hM hcc hf
  have hM : c = [svE (svs.getD i (none, 0, 0))] := hM
  subst hM
  have h1 := hcc 0 _ rfl
  have h2 := hf 0
  rw [show i * kv.sz + 0 = i from Nat.mul_one i] at h1 h2
  exact ⟨h1, h2⟩
theorem grown_put {w w' : World} {row : Option Nat} (h : w.grownBy w' row) {g i : Nat} (hg : row = some g ∨ w.heap.size ≤ g) (v : Value) : w.grownBy (w'.setCell ⟨g, i, none⟩ v) row where
  os := h.os
  tape := h.tape
  output := h.output
  size := by rw [World.size_setCell]; exact h.size
  block := fun k hk hne => (Below.heap_setCell w' ⟨g, i, none⟩ v k (fun e => by
    have e : k = g := e
    subst e
    rcases hg with h1 | h1
    · exact hne h1.symm
    · omega)).trans (h.block k hk hne)
def upRow (svs : List Sv) (i : Nat) : List Sv := (svs ++ [((none, 0, 0) : Sv)]).take (i + 1) ++ svs.drop i
theorem upRow_start (svs : List Sv) : upRow svs svs.length = svs ++ [((none, 0, 0) : Sv)] := by
  unfold upRow; rw [List.take_of_length_le (by simp), List.drop_length, List.append_nil]
theorem upRow_get (svs : List Sv) (i : Nat) (hi : i < svs.length) : (upRow svs (i + 1))[i]? = some svs[i] := by
  unfold upRow
  rw [List.getElem?_append_left (by simp; omega), List.getElem?_take, if_pos (by omega), List.getElem?_append_left hi, List.getElem?_eq_getElem hi]
theorem upRow_set (svs : List Sv) (i : Nat) (hi : i < svs.length) : (upRow svs (i + 1)).set (i + 1) svs[i] = upRow svs i := by
  unfold upRow
  rw [List.set_append_left _ _ (by simp; omega), List.take_succ_eq_append_getElem (i := i + 1) (by simp; omega), List.set_append_right _ _ (by simp; omega)]
  have e : (i + 1) - ((svs ++ [((none, 0, 0) : Sv)]).take (i + 1)).length = 0 := by simp; omega
  rw [e, List.set_cons_zero, List.append_assoc]
  congr 1
  rw [List.drop_eq_getElem_cons hi]; rfl
theorem upRow_end (svs : List Sv) (k : Nat) (hk : k ≤ svs.length) (sp : Sv) : (upRow svs k).set k sp = svs.take k ++ sp :: svs.drop k := by
  unfold upRow
  rw [List.set_append_left _ _ (by simp; omega), List.take_succ_eq_append_getElem (by simp; omega), List.set_append_right _ _ (by simp; omega)]
  have e : k - ((svs ++ [((none, 0, 0) : Sv)]).take k).length = 0 := by simp; omega
  rw [e, List.set_cons_zero, List.append_assoc, List.take_append_of_le_length hk]
  rfl
set_option maxHeartbeats 16000000 in
set_option maxRecDepth 100000 in
theorem put_any (k0 : Nat) {w : World} {base : Nat} {ok : Nat → Prop} {A : Option Addr} {c : Nat} {svs : List Sv} {ls : List (List Int)} {sp : Sv} {p : List Int} {kk : Nat} (hR : Kd.R kv 49 w base ok (.slice A svs.length c) svs) (hlen : svs.length = ls.length) (hbase : base ≤ w.heap.size) (hsm : svs.length < 100000)
    (hC : Kd.C (Kd.slice 3 (Kd.int .i64)) w A ls.length ls) (hp : PermAt w (svE sp) p) (h : Go.Proofs.Ytmbldnoepjmhhaa.PRf.galoisref23_Place.f k0 ls p = some (kk : Int)) (hkk : kk ≤ svs.length) :
    Calls Try.prog 125 #[.slice A svs.length c, svE sp] w fun e w' => ∃ v, e = .returned v ∧ Kd.R kv 49 w' base (fun b => ok b ∨ w.heap.size ≤ b) v (svs.take kk ++ sp :: svs.drop kk) ∧ w.grownBy w' (Value.slice A svs.length c).ownBlock := by
  obtain ⟨s1, s2, s3⟩ := sp
  simp only [svE] at hp ⊢
  obtain ⟨A1, c1, e1, hc1, hC1⟩ := hp
  injection e1 with e1 e2 e3
  subst e1; subst e2; subst e3
  have HR := Aside0.mk hR
  have HBASE := Aside0.mk hbase
  have HSM := Aside0.mk hsm
  have HC := Aside0.mk hC
  have HC1 := Aside0.mk hC1
  have Hc1 := Aside0.mk hc1
  have H := Aside0.mk h
  have HKK := Aside0.mk hkk
  have HLEN := Aside0.mk hlen
  have HL : Aside0 (ls.length ≤ c) := ⟨by have := (Kd.R_reads' hR).2.1; omega⟩
  clear hR hbase hsm hC hC1 hc1 h hkk hlen
  go_enter Try.func125, Try.ntmps125
  go_wp2_with (first
    | (go_at_call 114; rw [HLEN.out]; (refine (Go.Proofs.Ytmbldnoepjmhhaa.PRf.galoisref23_Place.calls k0 A c ls s1 s3 p kk _ HC.out HL.out HC1.out Hc1.out H.out).mono ?_); rintro e w1 ⟨rfl, hd1⟩; rw [← HLEN.out]; have HBW : Aside0 (Below w.heap.size w w1) := ⟨by obtain ⟨q1, rfl⟩ := hd1.out; exact pw_below_drewN (Below.refl _ _) q1⟩; clear hd1)
    | ((with_reducible refine gate_builtin (b := .append) (xs := #[.tmp 10, .tmp 11]) rfl ?_); at_builtin; refine Kd.R_append kv (w0 := w) (W := w1) base rfl (.tmp 10) (.tmp 11) 35 49 (.slice none 0 0) 24 rfl Try.underlying35 perm_info rfl (by decide) (by omega) (.slice A svs.length c) svs ((none, 0, 0) : Sv) [.slice none 0 0] (fun b => ok b ∨ w1.heap.size ≤ b) (fun _ => False) rfl rfl ?aP (fun _ hk => hk.elim) ?aF ?aO ?aB ?aS ?aL ?_; (case aP => rfl); (case aF => exact fun _ h => .inr h); (case aO => exact Kd.R_mono (Kd.R_below HR.out HBW.out) (fun _ h => .inl h)); (case aB => exact ⟨HBW.out.os, HBW.out.tape, HBW.out.output, HBW.out.size, fun k hk => HBW.out.block k (Nat.lt_of_lt_of_le hk HBASE.out)⟩); (case aS => exact Nat.le_trans HBASE.out HBW.out.size); (case aL => have := HSM.out; omega); intro v3 w3 ho3 hb3 hg3 hat3; obtain ⟨g3, cap3, e3, _, _, _, _⟩ := Kd.R_form ho3 (by simp); rw [List.length_append, List.length_singleton] at e3; subst e3))
  have HO : Aside0 (Kd.R kv 49 w3 base (fun b => ok b ∨ w1.heap.size ≤ b) (.slice (some ⟨g3, 0, none⟩) (svs.length + 1) cap3) (upRow svs svs.length)) := ⟨by rw [upRow_start]; exact ho3⟩
  have HG : Aside0 (w.grownBy w3 (Value.slice A svs.length c).ownBlock) := ⟨(grown_of_below HBW.out _).trans hg3⟩
  have HAT : Aside0 ((Value.slice A svs.length c).ownBlock = some g3 ∨ w.heap.size ≤ g3) := ⟨by
    rcases hat3 with h | ⟨b, h, h2⟩
    · exact .inl h.symm
    · have e : g3 = b := Option.some.inj h
      subst e
      exact .inr (Nat.le_trans HBW.out.size h2)⟩
  clear ho3 hb3 hg3 hat3
  have w0 : wrap64 (svs.length : Int) = (svs.length : Int) := IntWalk.wrap64_in _ ⟨by omega, by have := HSM.out; omega⟩
  go_wp2
  go_loopg [6] (svs.length - kk) (fun kq v6 w' => ∃ i : Nat, v6 = .int .i64 (i : Int) ∧ Aside0 (Kd.R kv 49 w' base (fun b => ok b ∨ w1.heap.size ≤ b) (.slice (some ⟨g3, 0, none⟩) (svs.length + 1) cap3) (upRow svs i)) ∧ Aside0 (w.grownBy w' (Value.slice A svs.length c).ownBlock) ∧ Aside0 (kq + kk = i ∧ i ≤ svs.length))
  case atStart => exact ⟨svs.length, (by first | rfl | (rw [w0]; done)), HO, HG, ⟨by have := HKK.out; omega, Nat.le_refl _⟩⟩
  case round =>
    clear HO HG w0
    obtain ⟨i, rfl, HO, HG, HI⟩ := hrel
    cases gk with
    | zero =>
      have ei : i = kk := by have := HI.out.1; omega
      subst ei
      have q1 : ((i : Int) < (i : Int)) = False := eq_false (by omega)
      have q2 : (i < i) = False := eq_false (by omega)
      have q3 : ((i : Int) < ((svs.length + 1 : Nat) : Int)) = True := eq_true (by have := HI.out.2; omega)
      have q4 : ((i : Int) < (svs.length : Int) + 1) = True := eq_true (by have := HI.out.2; omega)
      have q5 : (0 ≤ (i : Int)) = True := eq_true (by omega)
      obtain ⟨hc0, hf0⟩ := kv_cell HO.out i (by have := HI.out.2; omega)
      have hp := (Kd.R_putg HO.out (i : Int) ((s1, p.length, s3) : Sv)).1
      rw [Int.toNat_natCast, upRow_end svs i HI.out.2] at hp
      have HP := Aside0.mk hp
      clear hp
      go_wp2
      go_ret
      exact ⟨_, rfl, Kd.R_mono HP.out (fun b hb => hb.imp id (fun h => Nat.le_trans HBW.out.size h)), grown_put HG.out HAT.out _⟩
    | succ m =>
      obtain ⟨j, ej⟩ : ∃ j, i = j + 1 := ⟨i - 1, by have := HI.out.1; omega⟩
      subst ej
      have hj : j < svs.length := by have := HI.out.2; omega
      have q1 : ((kk : Int) < ((j + 1 : Nat) : Int)) = True := eq_true (by have := HI.out.1; omega)
      have q2 : (kk < j + 1) = True := eq_true (by have := HI.out.1; omega)
      have w2 : wrap64 (j : Int) = (j : Int) := IntWalk.wrap64_in _ ⟨by omega, by have := HSM.out; omega⟩
      have q8 : ((kk : Int) < (j : Int) + 1) = True := eq_true (by have := HI.out.1; omega)
      have q9 : ((j : Int) + 1 < (svs.length : Int) + 1) = True := eq_true (by omega)
      have q10 : (0 ≤ (j : Int) + 1) = True := eq_true (by omega)
      have q11 : ((j : Int) + 1).toNat = j + 1 := by omega
      have q3 : ((j : Int) < ((svs.length + 1 : Nat) : Int)) = True := eq_true (by omega)
      have q4 : ((j : Int) < (svs.length : Int) + 1) = True := eq_true (by omega)
      have q5 : (0 ≤ (j : Int)) = True := eq_true (by omega)
      have q6 : (((j + 1 : Nat) : Int) < (svs.length : Int) + 1) = True := eq_true (by omega)
      have q7 : (0 ≤ ((j + 1 : Nat) : Int)) = True := eq_true (by omega)
      obtain ⟨hc0, _⟩ := kv_cell HO.out j (by omega)
      have eg : (upRow svs (j + 1)).getD j (none, 0, 0) = svs[j] := by rw [List.getD_eq_getElem?_getD, upRow_get svs j hj]; rfl
      have hp := (Kd.R_putg HO.out ((j + 1 : Nat) : Int) svs[j]).1
      rw [Int.toNat_natCast, upRow_set svs j hj] at hp
      obtain ⟨⟨t1, t2, t3⟩, ht⟩ : ∃ t : Sv, svs[j] = t := ⟨_, rfl⟩
      rw [eg, ht] at hc0
      rw [ht] at hp
      simp only [svE] at hc0 hp
      have HP := Aside0.mk hp
      clear hp ht eg
      obtain ⟨hc1, hf1⟩ := kv_cell HO.out (j + 1) (by omega)
      go_wp2
      go_roundg m
      case measure => exact Nat.lt_succ_self _
      case rel => exact ⟨j, (by first | rfl | (rw [w2]; done)), HP, ⟨grown_put HG.out HAT.out _⟩, ⟨by have := HI.out.1; omega, by omega⟩⟩
theorem put_ls (k0 : Nat) {w : World} {base : Nat} {ok : Nat → Prop} {A : Option Addr} {c : Nat} {svs : List Sv} {ls : List (List Int)} {sp : Sv} {p : List Int} {kk : Nat} (hR : Kd.R kv 49 w base ok (.slice A ls.length c) svs) (hbase : base ≤ w.heap.size) (hsm : ls.length < 100000)
    (hC : Kd.C (Kd.slice 3 (Kd.int .i64)) w A ls.length ls) (hp : PermAt w (svE sp) p) (h : Go.Proofs.Ytmbldnoepjmhhaa.PRf.galoisref23_Place.f k0 ls p = some (kk : Int)) (hkk : kk ≤ ls.length) :
    Calls Try.prog 125 #[.slice A ls.length c, svE sp] w fun e w' => ∃ v, e = .returned v ∧ Kd.R kv 49 w' base (fun b => ok b ∨ w.heap.size ≤ b) v (svs.take kk ++ sp :: svs.drop kk) ∧ w.grownBy w' (Value.slice A ls.length c).ownBlock := by
  have hlen : svs.length = ls.length := (Kd.R_reads' hR).1.symm
  rw [← hlen] at hR ⊢
  exact put_any k0 hR hlen hbase (by omega) hC hp h (by omega)
end Go.Proofs.Ytmbldnoepjmhhaa.Bs
end
section
/- The walk of galoisref23.Close: all products, rising. -/
namespace Go.Proofs.Ytmbldnoepjmhhaa.Bs
open Go.RowKit Go.Proofs.YtmbldnoepjmhhaaW.PrintWords Go.Proofs.YtmbldnoepjmhhaaW.PrintLast Go.Proofs.YtmbldnoepjmhhaaW.PrintMore Go.Proofs.Ytmbldnoepjmhhaa.Plain Go.Proofs.Ytmbldnoepjmhhaa.PBs
open Go.Proofs.Ytmbldnoepjmhhaa.PRf (galoisref22_Mul.f galoisref22_Mul.mono galoisref22_Mul.calls galoisref23_Has.f galoisref23_Has.mono galoisref23_Has.calls galoisref23_Place.f galoisref23_Place.mono galoisref22_Identity.f galoisref22_Identity.mono galoisref22_Identity.calls)
def closeL (k : Nat) (gens : List (List Int)) : Nat → List (List Int) → List (List Int) → Nat → Nat → Option (List (List Int) × Bool)
  | 0, _, _, _, _ => none
  | q + 1, all, work, i, j => if i < work.length then (if j < gens.length then (galoisref22_Mul.f k (work.getD i []) (gens.getD j [])).bind fun p => (galoisref23_Has.f k all p).bind fun b => if b = true then closeL k gens q all work i (j + 1) else if 240 ≤ all.length then some ([], false) else (galoisref23_Place.f k all p).bind fun a => if 0 ≤ a ∧ a ≤ (all.length : Int) then closeL k gens q (all.take a.toNat ++ p :: all.drop a.toNat) (work ++ [p]) i (j + 1) else none
      else closeL k gens q all work (i + 1) 0) else some (all, true)
def galoisref23_Close.f (k : Nat) (n : Int) (gens : List (List Int)) : Option (List (List Int) × Bool) := (galoisref22_Identity.f k n).bind fun e => (galoisref22_Identity.f k n).bind fun e' => closeL k gens k [e] [e'] 0 0
theorem LeO.ite {α : Type} {c : Prop} [Decidable c] {a b a' b' : Option α} (h : LeO a a') (g : LeO b b') : LeO (if c then a else b) (if c then a' else b') := by
  by_cases hc : c
  · rw [if_pos hc, if_pos hc]; exact h
  · rw [if_neg hc, if_neg hc]; exact g
theorem closeL_mono (k : Nat) (gens : List (List Int)) : ∀ (q : Nat) (all work : List (List Int)) (i j : Nat), LeO (closeL k gens q all work i j) (closeL (k + 1) gens (q + 1) all work i j)
  | 0, _, _, _, _ => fun r h => by cases h
  | q + 1, all, work, i, j => by
    rw [closeL, closeL]
    refine LeO.ite (LeO.ite (LeO.bind (galoisref22_Mul.mono _ _ _) (fun p => LeO.bind (galoisref23_Has.mono _ _ _) (fun b => LeO.ite (closeL_mono k gens q _ _ _ _) (LeO.ite (LeO.refl _) (LeO.bind (galoisref23_Place.mono _ _ _) (fun a => LeO.ite (closeL_mono k gens q _ _ _ _) (LeO.refl _))))))) (closeL_mono k gens q _ _ _ _)) (LeO.refl _)
theorem galoisref23_Close.mono : ∀ n gens k, LeO (galoisref23_Close.f k n gens) (galoisref23_Close.f (k + 1) n gens) := fun n gens k => LeO.bind (galoisref22_Identity.mono _ _) (fun _ => LeO.bind (galoisref22_Identity.mono _ _) (fun _ => closeL_mono k gens k _ _ _ _))
structure ClAt (W0 : World) (ρ : Nat → Nat) (w : World) (va vw : Value) (svs : List Sv) (pw : List (List Int)) (t : Nat) (σ : List Nat) : Prop where
  bel : Below W0.heap.size W0 w
  fresh : ∀ b, w.heap.size ≤ b → ρ b = 0
  len : svs.length = pw.length
  rowW : Kd.R kv 49 w W0.heap.size (fun b => ρ b = 1) vw ((svs.take t).drop 1)
  rowA : Kd.R kv 49 w W0.heap.size (fun b => ρ b = 2) va (σ.map fun i => svs.getD i (none, 0, 0))
  inn : ∀ (i : Nat) (sv : Sv) (p : List Int), svs[i]? = some sv → pw[i]? = some p → Kd.R (Kd.int .i64) 3 w W0.heap.size (fun b => ρ b = 3 + i) (svE sv) p
section
variable {W0 w w' : World} {ρ : Nat → Nat} {va vw va' vw' : Value} {svs : List Sv} {pw : List (List Int)} {t : Nat} {σ σ' : List Nat}
theorem ClAt.below (h : ClAt W0 ρ w va vw svs pw t σ) (hb : Below w.heap.size w w') : ClAt W0 ρ w' va vw svs pw t σ where
  bel := below_then h.bel h.bel.size hb
  fresh := fun b hle => h.fresh b (Nat.le_trans hb.size hle)
  len := h.len
  rowW := Kd.R_below h.rowW hb
  rowA := Kd.R_below h.rowA hb
  inn := fun i sv p h1 h2 => Kd.R_below (h.inn i sv p h1 h2) hb
theorem ClAt.add (h : ClAt W0 ρ w va vw svs pw t σ) {sv : Sv} {p : List Int} (hb : Below w.heap.size w w') (hr : Kd.R (Kd.int .i64) 3 w' w.heap.size (fun _ => True) (svE sv) p) (ht : t ≤ svs.length) (hσ : ∀ i ∈ σ, i < svs.length) :
    ∃ ρ', ClAt W0 ρ' w' va vw (svs ++ [sv]) (pw ++ [p]) t σ := by
  have keep : ∀ b, b < w.heap.size → (if w.heap.size ≤ b ∧ b < w'.heap.size then 3 + svs.length else ρ b) = ρ b := fun b hb => if_neg (by omega)
  refine ⟨fun b => if w.heap.size ≤ b ∧ b < w'.heap.size then 3 + svs.length else ρ b, below_then h.bel h.bel.size hb, fun b hle => ?_, by rw [List.length_append, List.length_append, h.len]; rfl, ?_, ?_, ?_⟩
  · show (if w.heap.size ≤ b ∧ b < w'.heap.size then 3 + svs.length else ρ b) = 0
    rw [if_neg (by omega)]; exact h.fresh b (Nat.le_trans hb.size hle)
  · rw [List.take_append_of_le_length ht]
    exact Kd.R_mono (Kd.R_below (Kd.R_bound h.rowW) hb) (fun b hb2 => (keep b hb2.2.2.1).trans hb2.1)
  · have e : (σ.map fun i => (svs ++ [sv]).getD i (none, 0, 0)) = σ.map fun i => svs.getD i (none, 0, 0) := List.map_congr_left fun i hi => by
      rw [List.getD_eq_getElem?_getD, List.getElem?_append_left (hσ i hi), ← List.getD_eq_getElem?_getD]
    rw [e]
    exact Kd.R_mono (Kd.R_below (Kd.R_bound h.rowA) hb) (fun b hb2 => (keep b hb2.2.2.1).trans hb2.1)
  · intro i sv' p' h1 h2
    by_cases hi : i < svs.length
    · rw [List.getElem?_append_left hi] at h1
      rw [List.getElem?_append_left (by rw [← h.len]; exact hi)] at h2
      exact Kd.R_mono (Kd.R_below (Kd.R_bound (h.inn i sv' p' h1 h2)) hb) (fun b hb2 => (keep b hb2.2.2.1).trans hb2.1)
    · have hl1 := (List.getElem?_eq_some_iff.1 h1).1
      rw [List.length_append, List.length_singleton] at hl1
      have ei : i = svs.length := by omega
      subst ei
      rw [List.getElem?_append_right (Nat.le_refl _), Nat.sub_self] at h1
      rw [h.len, List.getElem?_append_right (Nat.le_refl _), Nat.sub_self] at h2
      obtain rfl := Option.some.inj h1
      obtain rfl := Option.some.inj h2
      exact Kd.R_mono (Kd.R_lower (Kd.R_bound hr) h.bel.size) (fun b hb2 => if_pos ⟨hb2.2.1, hb2.2.2.1⟩)
theorem ClAt.putA (h : ClAt W0 ρ w va vw svs pw t σ) (hR : Kd.R kv 49 w' W0.heap.size (fun b => ρ b = 2 ∨ w.heap.size ≤ b) va' (σ'.map fun i => svs.getD i (none, 0, 0))) (hg : w.grownBy w' va.ownBlock) : ∃ ρ', ClAt W0 ρ' w' va' vw svs pw t σ' := by
  have keep : ∀ b, b < w.heap.size → (if w.heap.size ≤ b ∧ b < w'.heap.size then 2 else ρ b) = ρ b := fun b hb => if_neg (by omega)
  have hva : ∀ b, va.ownBlock = some b → ρ b = 2 := h.rowA.1
  refine ⟨fun b => if w.heap.size ≤ b ∧ b < w'.heap.size then 2 else ρ b, pw_below_grown h.bel va.ownBlock h.bel.size hg (fun b e => Kd.R_base h.rowA b e), fun b hle => ?_, h.len, ?_, ?_, ?_⟩
  · show (if w.heap.size ≤ b ∧ b < w'.heap.size then 2 else ρ b) = 0
    rw [if_neg (by omega)]; exact h.fresh b (Nat.le_trans hg.size hle)
  · exact Kd.R_mono (Kd.R_grown (Kd.R_bound h.rowW) hg (fun b hb2 e => by have := hva b e.symm; have := hb2.1; omega)) (fun b hb2 => (keep b hb2.2.2.1).trans hb2.1)
  · refine Kd.R_mono (Kd.R_bound hR) (fun b hb2 => ?_)
    show (if w.heap.size ≤ b ∧ b < w'.heap.size then 2 else ρ b) = 2
    by_cases e : w.heap.size ≤ b ∧ b < w'.heap.size
    · rw [if_pos e]
    · rw [if_neg e]; exact hb2.1.resolve_right (fun h1 => e ⟨h1, hb2.2.2.1⟩)
  · intro i sv p h1 h2
    exact Kd.R_mono (Kd.R_grown (Kd.R_bound (h.inn i sv p h1 h2)) hg (fun b hb2 e => by have := hva b e.symm; have := hb2.1; omega)) (fun b hb2 => (keep b hb2.2.2.1).trans hb2.1)
theorem ClAt.putW {t' : Nat} (h : ClAt W0 ρ w va vw svs pw t σ) (hR : Kd.R kv 49 w' W0.heap.size (fun b => ρ b = 1 ∨ w.heap.size ≤ b) vw' ((svs.take t').drop 1)) (hg : w.grownBy w' vw.ownBlock) : ∃ ρ', ClAt W0 ρ' w' va vw' svs pw t' σ := by
  have keep : ∀ b, b < w.heap.size → (if w.heap.size ≤ b ∧ b < w'.heap.size then 1 else ρ b) = ρ b := fun b hb => if_neg (by omega)
  have hvw : ∀ b, vw.ownBlock = some b → ρ b = 1 := h.rowW.1
  refine ⟨fun b => if w.heap.size ≤ b ∧ b < w'.heap.size then 1 else ρ b, pw_below_grown h.bel vw.ownBlock h.bel.size hg (fun b e => Kd.R_base h.rowW b e), fun b hle => ?_, h.len, ?_, ?_, ?_⟩
  · show (if w.heap.size ≤ b ∧ b < w'.heap.size then 1 else ρ b) = 0
    rw [if_neg (by omega)]; exact h.fresh b (Nat.le_trans hg.size hle)
  · refine Kd.R_mono (Kd.R_bound hR) (fun b hb2 => ?_)
    show (if w.heap.size ≤ b ∧ b < w'.heap.size then 1 else ρ b) = 1
    by_cases e : w.heap.size ≤ b ∧ b < w'.heap.size
    · rw [if_pos e]
    · rw [if_neg e]; exact hb2.1.resolve_right (fun h1 => e ⟨h1, hb2.2.2.1⟩)
  · exact Kd.R_mono (Kd.R_grown (Kd.R_bound h.rowA) hg (fun b hb2 e => by have := hvw b e.symm; have := hb2.1; omega)) (fun b hb2 => (keep b hb2.2.2.1).trans hb2.1)
  · intro i sv p h1 h2
    exact Kd.R_mono (Kd.R_grown (Kd.R_bound (h.inn i sv p h1 h2)) hg (fun b hb2 e => by have := hvw b e.symm; have := hb2.1; omega)) (fun b hb2 => (keep b hb2.2.2.1).trans hb2.1)
theorem ClAt.readA {A : Option Addr} {n c : Nat} (h : ClAt W0 ρ w (.slice A n c) vw svs pw t σ) (hσ : ∀ i ∈ σ, i < svs.length) : Kd.C (Kd.slice 3 (Kd.int .i64)) w A σ.length (σ.map fun i => pw.getD i []) := by
  have := C_of_kv (ls := σ.map fun i => pw.getD i []) h.rowA (by rw [List.length_map, List.length_map]) (fun j sv p h1 h2 => by
    rw [List.getElem?_map] at h1 h2
    obtain ⟨i, hi, e1⟩ := Option.map_eq_some_iff.1 h1
    rw [hi] at h2
    obtain rfl := Option.some.inj h2
    have hil := hσ i (List.mem_of_getElem? hi)
    subst e1
    exact PermAt.of_R (h.inn i _ _ (by rw [List.getD_eq_getElem?_getD, List.getElem?_eq_getElem hil]; rfl) (by show pw[i]? = some (pw.getD i []); rw [List.getD_eq_getElem?_getD, List.getElem?_eq_getElem (by rw [← h.len]; exact hil)]; rfl)))
  rwa [List.length_map] at this
theorem ClAt.done (h : ClAt W0 ρ w va vw svs pw t σ) (hσ : ∀ i ∈ σ, i < svs.length) (hnd : σ.Nodup) : Kd.S (Kd.slice 3 (Kd.int .i64)) 49 w W0.heap.size (fun _ => True) va (σ.map fun i => pw.getD i []) := by
  refine S_pack (fun b => σ.idxOf (ρ b - 3)) (by rw [List.length_map, List.length_map]) h.rowA (fun _ _ => trivial) (fun j sv p h1 h2 => ?_)
  rw [List.getElem?_map] at h1 h2
  obtain ⟨i, hi, e1⟩ := Option.map_eq_some_iff.1 h1
  rw [hi] at h2
  obtain rfl := Option.some.inj h2
  have hil := hσ i (List.mem_of_getElem? hi)
  subst e1
  refine Kd.R_mono (h.inn i _ _ (by rw [List.getD_eq_getElem?_getD, List.getElem?_eq_getElem hil]; rfl) (by show pw[i]? = some (pw.getD i []); rw [List.getD_eq_getElem?_getD, List.getElem?_eq_getElem (by rw [← h.len]; exact hil)]; rfl)) (fun b hb => ⟨trivial, fun e => ?_, ?_⟩)
  · have := h.rowA.1 b e.symm; have := hb; omega
  · show σ.idxOf (ρ b - 3) = j
    rw [hb, show 3 + i - 3 = i by omega]
    obtain ⟨hj, e⟩ := List.getElem?_eq_some_iff.1 hi
    rw [← e]; exact hnd.idxOf_getElem j hj
end
theorem lit_kv (W : World) (base : Nat) (x : Sv) (hb : base ≤ W.heap.size) : Kd.R kv 49 (W.alloc (.cells #[svE x] 49)) base (fun b => b = W.heap.size) (.slice (some ⟨W.heap.size, 0, none⟩) 1 1) [x] := by
  refine ⟨fun k hk => ?_, ?_⟩
  · have : W.heap.size = k := by simpa [Value.ownBlock] using hk
    exact this.symm
  · exact OwnRow.lit (ps := [x]) (inner := [svE x]) W base ⟨rfl, fun j p hj => by
      cases j with
      | zero => simp at hj; subst hj; rfl
      | succ j => simp at hj⟩ hb (by simp)
theorem ClAt.start {W0 w1 w3 : World} {s1 s2 : Sv} {e : List Int} (hb1 : Below W0.heap.size W0 w1) (hr1 : Kd.R (Kd.int .i64) 3 w1 W0.heap.size (fun _ => True) (svE s1) e)
    (hb3 : Below (w1.heap.size + 1) (w1.alloc (.cells #[svE s1] 49)) w3) (hr3 : Kd.R (Kd.int .i64) 3 w3 (w1.heap.size + 1) (fun _ => True) (svE s2) e) :
    ∃ ρ, ClAt W0 ρ (w3.alloc (.cells #[svE s2] 49)) (.slice (some ⟨w1.heap.size, 0, none⟩) 1 1) (.slice (some ⟨w3.heap.size, 0, none⟩) 1 1) [s1, s2] [e, e] 2 [0] := by
  have hs3 : w1.heap.size + 1 ≤ w3.heap.size := by have := hb3.size; simpa using this
  have hB3 : Below w1.heap.size w1 w3 := ⟨hb3.os, hb3.tape, hb3.output, by omega, fun k hk => (hb3.block k (by omega)).trans ((below_alloc (Below.refl w1.heap.size w1) (.cells #[svE s1] 49)).block k hk)⟩
  have hB4 : Below w1.heap.size w1 (w3.alloc (.cells #[svE s2] 49)) := below_alloc hB3 _
  have hs4 : (w3.alloc (.cells #[svE s2] 49)).heap.size = w3.heap.size + 1 := by simp
  have h01 := hb1.size
  refine ⟨fun b => if b < W0.heap.size then 0 else if b < w1.heap.size then 3 else if b = w1.heap.size then 2 else if b < w3.heap.size then 4 else if b = w3.heap.size then 1 else 0, below_then hb1 hb1.size hB4, fun b hle => ?_, rfl, ?_, ?_, ?_⟩
  · show (if b < W0.heap.size then 0 else if b < w1.heap.size then 3 else if b = w1.heap.size then 2 else if b < w3.heap.size then 4 else if b = w3.heap.size then 1 else 0) = 0
    rw [if_neg (by omega), if_neg (by omega), if_neg (by omega), if_neg (by omega), if_neg (by omega)]
  · refine Kd.R_mono (lit_kv w3 W0.heap.size s2 (by omega)) (fun b hb => ?_)
    subst hb
    show (if w3.heap.size < W0.heap.size then 0 else if w3.heap.size < w1.heap.size then 3 else if w3.heap.size = w1.heap.size then 2 else if w3.heap.size < w3.heap.size then 4 else if w3.heap.size = w3.heap.size then 1 else 0) = 1
    rw [if_neg (by omega), if_neg (by omega), if_neg (by omega), if_neg (by omega), if_pos rfl]
  · have h1 := Kd.R_step (lit_kv w1 W0.heap.size s1 h01) (w1 := w3.alloc (.cells #[svE s2] 49)) (fun k hk hlt => by
      rw [(below_alloc (Below.refl w3.heap.size w3) (.cells #[svE s2] 49)).block k (by subst hk; omega)]
      exact hb3.block k (by subst hk; omega))
    refine Kd.R_mono h1 (fun b hb => ?_)
    subst hb
    show (if w1.heap.size < W0.heap.size then 0 else if w1.heap.size < w1.heap.size then 3 else if w1.heap.size = w1.heap.size then 2 else if w1.heap.size < w3.heap.size then 4 else if w1.heap.size = w3.heap.size then 1 else 0) = 2
    rw [if_neg (by omega), if_neg (by omega), if_pos rfl]
  · intro i sv p h1 h2
    match i, h1, h2 with
    | 0, h1, h2 =>
      obtain rfl : s1 = sv := Option.some.inj h1
      obtain rfl : e = p := Option.some.inj h2
      refine Kd.R_mono (Kd.R_below (Kd.R_bound hr1) hB4) (fun b hb => ?_)
      show (if b < W0.heap.size then 0 else if b < w1.heap.size then 3 else if b = w1.heap.size then 2 else if b < w3.heap.size then 4 else if b = w3.heap.size then 1 else 0) = 3
      rw [if_neg (by have := hb.2.1; omega), if_pos hb.2.2.1]
    | 1, h1, h2 =>
      obtain rfl : s2 = sv := Option.some.inj h1
      obtain rfl : e = p := Option.some.inj h2
      refine Kd.R_mono (Kd.R_lower (Kd.R_below (Kd.R_bound hr3) (below_alloc (Below.refl w3.heap.size w3) _)) (by omega)) (fun b hb => ?_)
      show (if b < W0.heap.size then 0 else if b < w1.heap.size then 3 else if b = w1.heap.size then 2 else if b < w3.heap.size then 4 else if b = w3.heap.size then 1 else 0) = 4
      have := hb.2.1
      rw [if_neg (by omega), if_neg (by omega), if_neg (by omega), if_pos hb.2.2.1]
    | i + 2, h1, h2 => simp at h1
theorem map_ins {α : Type} (f g : Nat → α) (σ : List Nat) (kk m : Nat) (hf : ∀ i ∈ σ, g i = f i) : (σ.take kk ++ m :: σ.drop kk).map g = (σ.map f).take kk ++ g m :: (σ.map f).drop kk := by
  rw [List.map_append, List.map_cons, ← List.map_take, ← List.map_drop]
  have e1 : (σ.take kk).map g = (σ.take kk).map f := List.map_congr_left fun i hi => hf i (List.mem_of_mem_take hi)
  have e2 : (σ.drop kk).map g = (σ.drop kk).map f := List.map_congr_left fun i hi => hf i (List.mem_of_mem_drop hi)
  rw [e1, e2]
theorem work_one {α : Type} (l : List α) (x : α) (h : 1 ≤ l.length) : ((l ++ [x]).take l.length).drop 1 ++ [x] = ((l ++ [x]).take (l ++ [x]).length).drop 1 := by
  rw [List.take_left', List.take_length, List.drop_append_of_le_length h]; rfl
theorem getD_left {α : Type} (l : List α) (x d : α) {i : Nat} (hi : i < l.length) : (l ++ [x]).getD i d = l.getD i d := by
  rw [List.getD_eq_getElem?_getD, List.getElem?_append_left hi, ← List.getD_eq_getElem?_getD]
theorem getD_last {α : Type} (l : List α) (x d : α) : (l ++ [x]).getD l.length d = x := by
  rw [List.getD_eq_getElem?_getD, List.getElem?_append_right (Nat.le_refl _), Nat.sub_self]; rfl
set_option maxHeartbeats 16000000 in
set_option maxRecDepth 100000 in
theorem galoisref23_Close.calls (k : Nat) (a0 : Int) (A1 : Option Addr) (c1 : Nat) (l1 : List (List Int)) (r1 : List (List Int)) (r2 : Bool) (w : World) (hr1 : Kd.C (Kd.slice 3 (Kd.int .i64)) w A1 l1.length l1) (hc1 : l1.length ≤ c1) (h : galoisref23_Close.f k a0 l1 = some (r1, r2)) :
    Calls Try.prog 92 #[.int .i64 a0, .slice A1 l1.length c1] w fun e w' => ∃ v0_ : Value, e = .returned (.tuple #[v0_, .bool r2]) ∧ Kd.S (Kd.slice 3 (Kd.int .i64)) 49 w' w.heap.size (fun _ => True) v0_ r1 ∧ Below w.heap.size w w' := by
  have HC := Aside0.mk hc1
  have HG := Aside0.mk hr1
  unfold galoisref23_Close.f at h
  replace h := Option.bind_eq_some_iff.1 h
  obtain ⟨e, h1, h⟩ := h
  rw [h1, Option.bind_some] at h
  have HI := Aside0.mk h1
  have H := Aside0.mk h
  clear hr1 hc1 h h1
  go_enter Try.func92, Try.ntmps92
  go_wp2_with (first
    | (go_at_call 25; (refine (galoisref22_Identity.calls k a0 e w HI.out).mono ?_); rintro e1 w1 ⟨v1, rfl, hr1, hb1⟩; obtain ⟨A3, c3, e3⟩ := Kd.R_slice hr1; subst e3; have HR1 := Aside0.mk hr1; have HB1 := Aside0.mk hb1; clear hr1 hb1)
    | (go_at_call 25; (refine (galoisref22_Identity.calls k a0 e _ HI.out).mono ?_); rintro e2 w3 ⟨v2, rfl, hr3, hb3⟩; obtain ⟨A4, c4, e4⟩ := Kd.R_slice hr3; subst e4; have HR3 := Aside0.mk hr3; have HB3 := Aside0.mk hb3; clear hr3 hb3))
  have HS : Aside0 (∃ ρ, ClAt w ρ (w3.alloc (.cells #[.slice A4 e.length c4] 49)) (.slice (some ⟨w1.heap.size, 0, none⟩) 1 1) (.slice (some ⟨w3.heap.size, 0, none⟩) 1 1) [(A3, e.length, c3), (A4, e.length, c4)] [e, e] 2 [0]) := ⟨ClAt.start (s1 := (A3, e.length, c3)) (s2 := (A4, e.length, c4)) HB1.out HR1.out (by simpa [svE] using HB3.out) (by simpa [svE] using HR3.out)⟩
  clear HR1 HB1 HR3 HB3 HI
  go_loopg [6, 7, 8] k (fun kq v6 v7 v8 w' => ∃ (ρ : Nat → Nat) (svs : List Sv) (pw : List (List Int)) (σ : List Nat) (i : Nat) (va vw : Value), va = v6 ∧ vw = v7 ∧ v8 = .int .i64 (i : Int) ∧ Aside0 (ClAt w ρ w' va vw svs pw svs.length σ) ∧ Aside0 (closeL k l1 kq (σ.map fun i => pw.getD i []) (pw.drop 1) i 0 = some (r1, r2)) ∧ Aside0 (σ.length + 1 = svs.length ∧ svs.length ≤ 300 ∧ (∀ i ∈ σ, i < svs.length) ∧ σ.Nodup))
  case atStart => obtain ⟨ρ, hs⟩ := HS.out; exact ⟨ρ, _, _, _, 0, _, _, rfl, rfl, rfl, ⟨hs⟩, H, ⟨rfl, by simp, by simp, by simp⟩⟩
  case round =>
    clear HS H
    obtain ⟨ρ, svs, pw, σ, i, va, vw, rfl, rfl, rfl, HCL, HA, HI⟩ := hrel
    have h := HA.out
    clear HA
    cases gk with
    | zero => cases h
    | succ m =>
      have hwl : (pw.drop 1).length = svs.length - 1 := by rw [List.length_drop, ← HCL.out.len]
      obtain ⟨Aw, cw, ew⟩ := Kd.R_slice HCL.out.rowW
      rw [List.take_length, List.length_drop] at ew
      subst ew
      by_cases hi : i < svs.length - 1
      · have q1 : (i < svs.length - 1) = True := eq_true hi
        have q2 : ((i : Int) < ((svs.length - 1 : Nat) : Int)) = True := eq_true (by omega)
        have H := Aside0.mk h
        have HIL := Aside0.mk hi
        clear h hi hwl
        go_wp2
        go_loopg [6, 7, 9] (m + 1) (fun gq v6 v7 v9 w' => ∃ (ρ : Nat → Nat) (svs : List Sv) (pw : List (List Int)) (σ : List Nat) (j : Nat) (va vw : Value), va = v6 ∧ vw = v7 ∧ v9 = .int .i64 (j : Int) ∧ Aside0 (ClAt w ρ w' va vw svs pw svs.length σ) ∧ Aside0 (closeL k l1 gq (σ.map fun i => pw.getD i []) (pw.drop 1) i j = some (r1, r2)) ∧ Aside0 (σ.length + 1 = svs.length ∧ svs.length ≤ 300 ∧ (∀ i ∈ σ, i < svs.length) ∧ σ.Nodup) ∧ Aside0 (i < svs.length - 1) ∧ Aside0 (gq ≤ m + 1) ∧ Aside0 (j ≤ l1.length))
        case atStart => exact ⟨ρ, svs, pw, σ, 0, _, _, rfl, rfl, rfl, HCL, H, HI, HIL, ⟨Nat.le_refl _⟩, ⟨Nat.zero_le _⟩⟩
        case round =>
          clear HCL H HI HIL q1 q2
          obtain ⟨ρ, svs, pw, σ, j, va, vw, rfl, rfl, rfl, HCL, HA, HI, HIL, HGQ, HJ⟩ := hrel
          have h := HA.out
          clear HA
          cases gk with
          | zero => cases h
          | succ m2 =>
            have hwl : (pw.drop 1).length = svs.length - 1 := by rw [List.length_drop, ← HCL.out.len]
            rw [closeL, if_pos (by rw [hwl]; exact HIL.out)] at h
            obtain ⟨Aw, cw, ew⟩ := Kd.R_slice HCL.out.rowW
            rw [List.take_length, List.length_drop] at ew
            subst ew
            by_cases hj : j < l1.length
            · rw [if_pos hj] at h
              have q1 : (j < l1.length) = True := eq_true hj
              have q2 : ((j : Int) < (l1.length : Int)) = True := eq_true (by omega)
              have q0 : (0 ≤ (j : Int)) = True := eq_true (by omega)
              have q3 : (0 ≤ (i : Int)) = True := eq_true (by omega)
              have q4 : ((i : Int) < ((svs.length - 1 : Nat) : Int)) = True := eq_true (by have := HIL.out; omega)
              have q5 : (i < svs.length - 1) = True := eq_true HIL.out
              have wj : wrap64 ((j : Int) + 1) = ((j + 1 : Nat) : Int) := (IntWalk.wrap64_in _ ⟨by omega, by have := (HG.out).2.1; omega⟩).trans (by omega)
              have hi1 : i + 1 < svs.length := by have := HIL.out; omega
              obtain ⟨gw, capw, ew, _, _, _, _⟩ := Kd.R_form HCL.out.rowW (by rw [List.take_length, List.length_drop]; omega)
              injection ew with ew1 ew2 ew3
              subst ew1; subst ew3
              clear ew2
              obtain ⟨hcw, _⟩ := kv_cell HCL.out.rowW i HIL.out
              have eg : ((svs.take svs.length).drop 1).getD i (none, 0, 0) = svs[i + 1] := by rw [List.take_length, List.getD_eq_getElem?_getD, List.getElem?_drop, Nat.add_comm 1 i, List.getElem?_eq_getElem hi1]; rfl
              have ex : (pw.drop 1).getD i [] = pw.getD (i + 1) [] := by rw [List.getD_eq_getElem?_getD, List.getElem?_drop, Nat.add_comm 1 i, ← List.getD_eq_getElem?_getD]
              obtain ⟨a1, ca1, e1, hle1, hC1⟩ := PermAt.of_R (HCL.out.inn (i + 1) svs[i + 1] (pw.getD (i + 1) []) (List.getElem?_eq_getElem hi1) (by rw [List.getD_eq_getElem?_getD, List.getElem?_eq_getElem (by rw [← HCL.out.len]; exact hi1)]; rfl))
              rw [eg, e1] at hcw
              rw [ex] at h
              obtain ⟨x, hx⟩ : ∃ x, pw.getD (i + 1) [] = x := ⟨_, rfl⟩
              rw [hx] at hcw h hle1 hC1
              obtain ⟨ad, gv, eA, hcell0, hga⟩ := row_at HG.out (List.getElem?_eq_getElem hj)
              subst eA
              obtain ⟨a2, ca2, e2, hle2, hC2⟩ := hga
              rw [e2] at hcell0
              have ey : l1.getD j [] = l1[j] := by rw [List.getD_eq_getElem?_getD, List.getElem?_eq_getElem hj]; rfl
              rw [ey] at h
              obtain ⟨y, hy⟩ : ∃ y, l1[j] = y := ⟨_, rfl⟩
              rw [hy] at hcell0 h hle2 hC2
              have hcell := (World.cell?_of_block (w := w) (w' := wr) (HCL.out.bel.block _ (World.block_lt_of_cell? w _ hcell0))).trans hcell0
              obtain ⟨ls, hls⟩ : ∃ ls, (σ.map fun i => pw.getD i []) = ls := ⟨_, rfl⟩
              rw [hls] at h
              have hll : σ.length = ls.length := by rw [← hls, List.length_map]
              obtain ⟨Aa, ca, ea⟩ := Kd.R_slice HCL.out.rowA
              rw [List.length_map, hll] at ea
              subst ea
              replace h := Option.bind_eq_some_iff.1 h
              obtain ⟨p, h1, h⟩ := h
              replace h := Option.bind_eq_some_iff.1 h
              obtain ⟨b, h2, h⟩ := h
              have HM := Aside0.mk h1
              have HH := Aside0.mk h2
              have H := Aside0.mk h
              have HC1 := Aside0.mk hC1
              have HC2 := Aside0.mk (Kd.C_below hC2 ⟨HCL.out.bel.os, HCL.out.bel.tape, HCL.out.bel.output, HCL.out.bel.size, HCL.out.bel.block⟩)
              have HL1 := Aside0.mk hle1
              have HL2 := Aside0.mk hle2
              have HLL := Aside0.mk hll
              have HLS := Aside0.mk hls
              have HCa := Aside0.mk (HCL.out.readA HI.out.2.2.1)
              rw [hls, hll] at HCa
              have HJL := Aside0.mk hj
              clear h h1 h2 hj hi1 hwl e1 e2 ex ey hx hy eg hcell0 hC1 hC2 hle1 hle2 hll hls
              go_wp2
              go_region_with (go_at_call 43; (refine (galoisref22_Mul.calls k a1 ca1 x a2 ca2 y p _ (Kd.C_below HC1.out bel0) HL1.out (Kd.C_below HC2.out bel0) HL2.out HM.out).mono ?_); rintro e w5 ⟨v5, rfl, hr5, hb5⟩; obtain ⟨A5, c5, e5⟩ := Kd.R_slice hr5; subst e5; have HR5 := Aside0.mk (Kd.R_lower hr5 (show wr.heap.size ≤ _ from by first | exact Nat.le_refl _ | simp)); have HB5 := Aside0.mk (below_step (w := wr) bel0 hb5); clear hr5 hb5)
              all_goals
                have HC5 := Aside0.mk (Kd.R_reads' HR5.out).2.2
                have HL5 := Aside0.mk (Kd.R_reads' HR5.out).2.1
                have HCa5 := Aside0.mk (Kd.C_below HCa.out HB5.out)
                have HLa := Aside0.mk (Kd.R_reads' HCL.out.rowA).2.1
                cases b with
                | true =>
                  have h := H.out
                  rw [if_pos rfl] at h
                  have H2 := Aside0.mk h
                  rw [← HLS.out] at H2
                  have HCL5 := Aside0.mk (HCL.out.below HB5.out)
                  clear h H
                  go_wp2_with (go_at_call 75; (refine (galoisref23_Has.calls k Aa ca ls A5 c5 p true _ HCa5.out HLa.out HC5.out HL5.out HH.out).mono ?_); rintro e' w6 ⟨rfl, hd6⟩; have HCL6 := Aside0.mk (HCL5.out.below (w' := w6) (by obtain ⟨q6, rfl⟩ := hd6.out; exact pw_below_drewN (Below.refl _ _) q6)); clear hd6)
                  go_roundg m2
                  case measure => exact Nat.lt_succ_self _
                  case rel => exact ⟨ρ, svs, pw, σ, j + 1, _, _, rfl, rfl, (by first | (rw [wj]; done) | rfl), HCL6, H2, HI, HIL, ⟨by have := HGQ.out; omega⟩, ⟨HJL.out⟩⟩
                | false =>
                  have h := H.out
                  rw [if_neg (by decide)] at h
                  by_cases hbig : 240 ≤ ls.length
                  · rw [if_pos hbig] at h
                    obtain ⟨rfl, rfl⟩ := Prod.mk.inj (Option.some.inj h)
                    have g1 : (240 ≤ ls.length) = True := eq_true hbig
                    have g2 : ((240 : Int) ≤ (ls.length : Int)) = True := eq_true (by omega)
                    have HCL5 := Aside0.mk (HCL.out.below HB5.out)
                    clear h H hbig
                    go_wp2_with (go_at_call 75; (refine (galoisref23_Has.calls k Aa ca ls A5 c5 p false _ HCa5.out HLa.out HC5.out HL5.out HH.out).mono ?_); rintro e' w6 ⟨rfl, hd6⟩; have HCL6 := Aside0.mk (HCL5.out.below (w' := w6) (by obtain ⟨q6, rfl⟩ := hd6.out; exact pw_below_drewN (Below.refl _ _) q6)); clear hd6)
                    go_ret2
                    exact ⟨_, rfl, Kd.S_nil _ _ _ _ _, HCL6.out.bel⟩
                  · rw [if_neg hbig] at h
                    have g1 : (240 ≤ ls.length) = False := eq_false hbig
                    have g2 : ((240 : Int) ≤ (ls.length : Int)) = False := eq_false (by omega)
                    replace h := Option.bind_eq_some_iff.1 h
                    obtain ⟨a, h3, h⟩ := h
                    have hka : 0 ≤ a ∧ a ≤ (ls.length : Int) := by
                      by_cases e : 0 ≤ a ∧ a ≤ (ls.length : Int)
                      · exact e
                      · rw [if_neg e] at h; cases h
                    rw [if_pos hka] at h
                    obtain ⟨kk, rfl⟩ : ∃ kk : Nat, a = (kk : Int) := ⟨a.toNat, by omega⟩
                    rw [Int.toNat_natCast] at h
                    have HPL := Aside0.mk h3
                    have HKK : Aside0 (kk ≤ ls.length) := ⟨by omega⟩
                    have HSM : Aside0 (ls.length < 240) := ⟨by omega⟩
                    have H2 := Aside0.mk h
                    obtain ⟨ρ1, hcl1⟩ := HCL.out.add (sv := (A5, p.length, c5)) HB5.out HR5.out (Nat.le_refl _) HI.out.2.2.1
                    have HCL5 := Aside0.mk hcl1
                    clear h H hbig h3 hka hcl1
                    go_wp2_with (first
                      | (go_at_call 75; (refine (galoisref23_Has.calls k Aa ca ls A5 c5 p false _ HCa5.out HLa.out HC5.out HL5.out HH.out).mono ?_); rintro e' w6 ⟨rfl, hd6⟩; have HB6 : Aside0 (Below w5.heap.size w5 w6) := ⟨by obtain ⟨q6, rfl⟩ := hd6.out; exact pw_below_drewN (Below.refl _ _) q6⟩; have HCL6 := Aside0.mk (HCL5.out.below HB6.out); have HC6 := Aside0.mk (Kd.C_below HC5.out HB6.out); have HCa6 := Aside0.mk (Kd.C_below HCa5.out HB6.out); clear hd6)
                      | (go_at_call 125; (refine (put_ls k (sp := (A5, p.length, c5)) (ls := ls) HCL6.out.rowA HCL6.out.bel.size (by have := HSM.out; omega) HCa6.out ⟨A5, c5, rfl, HL5.out, HC6.out⟩ HPL.out HKK.out).mono ?_); rintro e' w7 ⟨v7, rfl, hr7, hg7⟩; obtain ⟨ρ2, hcl7⟩ := HCL6.out.putA (σ' := σ.take kk ++ svs.length :: σ.drop kk) (by rw [map_ins (fun i => (svs ++ [((A5, p.length, c5) : Sv)]).getD i (none, 0, 0)) _ σ kk svs.length (fun _ _ => rfl), getD_last]; exact hr7) hg7; have HCL7 := Aside0.mk hcl7; clear hr7 hg7 hcl7)
                      | ((with_reducible refine gate_builtin (b := .append) (xs := #[.tmp 48, .tmp 50]) rfl ?_); at_builtin; refine Kd.R_append kv (w0 := w) (W := w7) w.heap.size rfl (.tmp 48) (.tmp 50) 35 49 (.slice none 0 0) 24 rfl Try.underlying35 perm_info rfl (by decide) (by omega) (.slice (some ⟨gw, 0, none⟩) (svs.length - 1) cw) (((svs ++ [((A5, p.length, c5) : Sv)]).take svs.length).drop 1) ((A5, p.length, c5) : Sv) [.slice A5 p.length c5] (fun b => ρ2 b = 1 ∨ w7.heap.size ≤ b) (fun _ => False) rfl rfl ?aP (fun _ hk => hk.elim) ?aF ?aO ?aB ?aS ?aL ?_; (case aP => rfl); (case aF => exact fun _ h => .inr h); (case aO => exact Kd.R_mono HCL7.out.rowW (fun _ h => .inl h)); (case aB => exact HCL7.out.bel); (case aS => exact HCL7.out.bel.size); (case aL => have := HI.out.2.1; rw [List.length_drop, List.length_take]; omega); intro v8 w8 ho8 hb8 hg8 hat8; rw [work_one svs _ (by have := HIL.out; omega)] at ho8; obtain ⟨ρ3, hcl8⟩ := HCL7.out.putW ho8 hg8; have HCL8 := Aside0.mk hcl8; clear ho8 hb8 hg8 hat8 hcl8))
                    go_roundg m2
                    case measure => exact Nat.lt_succ_self _
                    case rel =>
                      refine ⟨ρ3, svs ++ [(A5, p.length, c5)], pw ++ [p], σ.take kk ++ svs.length :: σ.drop kk, j + 1, _, _, rfl, rfl, (by first | (rw [wj]; done) | rfl), HCL8, ⟨?_⟩, ⟨?_⟩, ⟨by have := HIL.out; rw [List.length_append, List.length_singleton]; omega⟩, ⟨by have := HGQ.out; omega⟩, ⟨HJL.out⟩⟩
                      · rw [map_ins (fun i => pw.getD i []) (fun i => (pw ++ [p]).getD i []) σ kk svs.length (fun i hi => getD_left pw p [] (by rw [← HCL.out.len]; exact HI.out.2.2.1 i hi)), HLS.out, List.drop_append_of_le_length (by have := HIL.out; rw [← HCL.out.len]; omega)]
                        have e : (pw ++ [p]).getD svs.length [] = p := by rw [HCL.out.len]; exact getD_last pw p []
                        simp only [e]
                        exact H2.out
                      · have hkl : kk ≤ σ.length := by rw [HLL.out]; exact HKK.out
                        have hp : (σ.take kk ++ svs.length :: σ.drop kk).Perm (svs.length :: σ) := by
                          refine List.perm_middle.trans ?_
                          rw [List.take_append_drop]
                        have hns : svs.length ∉ σ := fun hm => Nat.lt_irrefl _ (HI.out.2.2.1 _ hm)
                        refine ⟨?_, ?_, ?_, ?_⟩
                        · rw [hp.length_eq, List.length_cons, List.length_append, List.length_singleton, HI.out.1]
                        · have h1 := HSM.out
                          have h2 := HLL.out
                          have h3 := HI.out.1
                          rw [List.length_append, List.length_singleton]; omega
                        · intro i hi
                          rw [List.length_append, List.length_singleton]
                          rcases List.mem_cons.1 (hp.subset hi) with e | e
                          · omega
                          · have := HI.out.2.2.1 i e; omega
                        · exact hp.nodup_iff.2 (List.nodup_cons.2 ⟨hns, HI.out.2.2.2⟩)
            · rw [if_neg hj] at h
              have q1 : (j < l1.length) = False := eq_false hj
              have q2 : ((j : Int) < (l1.length : Int)) = False := eq_false (by omega)
              have H := Aside0.mk h
              have wi : wrap64 ((i : Int) + 1) = ((i + 1 : Nat) : Int) := (IntWalk.wrap64_in _ ⟨by omega, by have := HIL.out; have := HI.out.2.1; omega⟩).trans (by omega)
              clear h hj hwl
              go_wp2
              go_roundg m2
              case measure => have := HGQ.out; omega
              case rel => exact ⟨ρ, svs, pw, σ, i + 1, _, _, rfl, rfl, (by first | (rw [wi]; done) | rfl), HCL, H, HI⟩
      · rw [closeL, if_neg (by rw [hwl]; exact hi)] at h
        obtain ⟨rfl, rfl⟩ := Prod.mk.inj (Option.some.inj h)
        have q1 : (i < svs.length - 1) = False := eq_false hi
        have q2 : ((i : Int) < ((svs.length - 1 : Nat) : Int)) = False := eq_false (by omega)
        clear h hi hwl
        go_wp2
        go_ret2
        exact ⟨_, rfl, HCL.out.done HI.out.2.2.1 HI.out.2.2.2, HCL.out.bel⟩
end Go.Proofs.Ytmbldnoepjmhhaa.Bs
end
section
/- galoisref23.Chain: what it computes, and its rows in memory while it does. -/
namespace Go.Proofs.Ytmbldnoepjmhhaa.Bs
open Go.RowKit Go.Proofs.YtmbldnoepjmhhaaW.PrintWords Go.Proofs.YtmbldnoepjmhhaaW.PrintLast Go.Proofs.YtmbldnoepjmhhaaW.PrintMore Go.Proofs.Ytmbldnoepjmhhaa.Plain Go.Proofs.Ytmbldnoepjmhhaa.PBs Go.Proofs.Ytmbldnoepjmhhaa.PAll
theorem rc_lit_row (W : World) (base : Nat) (xs : List Int) (hb : base ≤ W.heap.size) (hl : xs.length ≤ 1000) : Kd.R (Kd.int .i64) 3 (W.alloc (.cells (xs.map (Value.int .i64)).toArray 3)) base (fun b => b = W.heap.size) (.slice (some ⟨W.heap.size, 0, none⟩) xs.length xs.length) xs := by
  refine ⟨fun k hk => ?_, ?_⟩
  · have : W.heap.size = k := by simpa [Value.ownBlock] using hk
    exact this.symm
  · exact OwnRow.lit (ps := xs) (inner := xs.map (Value.int .i64)) W base ⟨by rw [List.length_map]; exact (Nat.mul_one _).symm, fun j p hj => by
      have hjl := (List.getElem?_eq_some_iff.1 hj).1
      show ((xs.map (Value.int .i64)).drop (j * 1)).take 1 = [Value.int .i64 p]
      rw [Nat.mul_one, List.drop_eq_getElem_cons (by simpa using hjl)]
      simp [(List.getElem?_eq_some_iff.1 hj).2]⟩ hb (by show xs.length ≤ 9223372036854775807; omega)
theorem rc_lit_one (W : World) (x : Int) : Kd.R (Kd.int .i64) 3 (W.alloc (.cells #[.int .i64 x] 3)) 0 (fun b => b = W.heap.size) (.slice (some ⟨W.heap.size, 0, none⟩) 1 1) [x] := rc_lit_row W 0 [x] (Nat.zero_le _) (Nat.succ_le_succ (Nat.zero_le _))
theorem kd_R_F {α : Type} {d : Kd α} {e base n c : Nat} {w : World} {ok : Nat → Prop} {A : Option Addr} {xs : List α} (h : Kd.R d e w base ok (.slice A n c) xs) : Kd.F d w (fun k => base ≤ k) A n xs := by
  have hn := (Kd.R_reads' h).1
  subst hn
  have h1 := Kd.V_mono (Kd.R_V (base' := 0) (Kd.R_bound h)) (ok' := fun k => base ≤ k) (fun k hk => hk.2.1)
  exact Kd.V_F h1
def chIn (b q : Int) : List (List Int) → Bool → List Int → List (List Int) → Option (List Int × List (List Int))
  | [], _, o, ws => some (o, ws)
  | p :: r, d, o, ws => if rd p b = q ∧ d = false then (if o.length < 1000 ∧ ws.length < 1000 then chIn b q r true (o ++ [q]) (ws ++ [p]) else none) else chIn b q r d o ws
def chMid (b : Int) (all : List (List Int)) : List Nat → List Int → List (List Int) → Option (List Int × List (List Int))
  | [], o, ws => some (o, ws)
  | q :: r, o, ws => (chIn b (q : Int) all false o ws).bind fun t => chMid b all r t.1 t.2
def chOut (k n : Nat) : List Nat → List (List Int) → List S71 → Option (List S71)
  | [], all, out => some out
  | b :: r, all, out => if (∀ p ∈ all, b < p.length) ∧ all.length ≤ 100000 ∧ out.length < 1000 then (chMid (b : Int) all (List.range n) [] []).bind fun t => (PRf.galoisref23_Fixing.f k all [(b : Int)]).bind fun all' => chOut k n r all' (if 1 < t.1.length then out ++ [⟨(b : Int), t.1, t.2⟩] else out) else none
def galoisref23_Chain.f (k : Nat) (a0 : Int) (all : List (List Int)) : Option (List S71) := if 0 ≤ a0 ∧ a0 ≤ 20 then chOut k a0.toNat (List.range a0.toNat) all [] else none
theorem chOut_mono (k n : Nat) : ∀ (l : List Nat) (all : List (List Int)) (out : List S71), LeO (chOut k n l all out) (chOut (k + 1) n l all out)
  | [], all, out => LeO.refl _
  | b :: r, all, out => LeO.ite (LeO.bind (LeO.refl _) (fun t => LeO.bind (PRf.galoisref23_Fixing.mono _ _ _) (fun _ => chOut_mono k n r _ _))) (LeO.refl _)
theorem galoisref23_Chain.mono : ∀ a0 all k, LeO (galoisref23_Chain.f k a0 all) (galoisref23_Chain.f (k + 1) a0 all) := fun a0 all k => LeO.ite (chOut_mono k _ _ _ _) (LeO.refl _)
structure RoAt (W0 w : World) (va vt : Value) (all : List (List Int)) (out : List S71) : Prop where
  bel : Below W0.heap.size W0 w
  ra : Kd.V (Kd.slice 3 (Kd.int .i64)) 49 w 0 (fun b => some b ≠ vt.ownBlock) va all
  rt : Kd.N k71 71 w W0.heap.size (fun _ => True) vt out
structure RcAt (wN : World) (P Q : Nat → Prop) (xb : Nat) (b : Int) (vo vw : Value) (o : List Int) (ws : List (List Int)) (w : World) : Prop where
  bel : Below wN.heap.size wN w
  xl : wN.heap.size ≤ xb
  bx : w.heap[xb]? = some (.cells #[.int .i64 b, vo, vw] 71 (0, 0))
  ro : Kd.R (Kd.int .i64) 3 w wN.heap.size (fun _ => True) vo o
  rw' : Kd.N (Kd.slice 3 (Kd.int .i64)) 49 w wN.heap.size (fun b => (P b ∧ b < wN.heap.size) ∨ Q b) vw ws
  q : ∀ k, Q k → wN.heap.size ≤ k ∧ k < w.heap.size ∧ k ≠ xb ∧ some k ≠ vo.ownBlock
section
variable {W0 wN w w1 w' : World} {P Q : Nat → Prop} {xb : Nat} {b : Int} {va vt vo vw v1 : Value} {all all' : List (List Int)} {out : List S71} {o : List Int} {ws : List (List Int)}
theorem RoAt.below (h : RoAt W0 w va vt all out) (hb : Below w.heap.size w w') : RoAt W0 w' va vt all out :=
  ⟨below_then h.bel h.bel.size hb, Kd.V_below h.ra hb, Kd.N_below h.rt hb⟩
theorem RoAt.use (h : RoAt W0 w va vt all out) (hb : Below w.heap.size w w') : Kd.V (Kd.slice 3 (Kd.int .i64)) 49 w' w'.heap.size (fun k => some k ≠ vt.ownBlock) va all := (h.below hb).ra
theorem RcAt.below (h : RcAt wN P Q xb b vo vw o ws w) (hb : Below w.heap.size w w') : RcAt wN P Q xb b vo vw o ws w' :=
  ⟨below_then h.bel h.bel.size hb, h.xl, (hb.block _ (blk_lt h.bx)).trans h.bx, Kd.R_below h.ro hb, Kd.N_below h.rw' hb, fun k hk => ⟨(h.q k hk).1, Nat.lt_of_lt_of_le (h.q k hk).2.1 hb.size, (h.q k hk).2.2⟩⟩
theorem RcAt.start (w : World) (P : Nat → Prop) (b : Int) : RcAt w P (fun _ => False) w.heap.size b (.slice none 0 0) (.slice none 0 0) [] [] (w.alloc (.cells #[.int .i64 b, .slice none 0 0, .slice none 0 0] 71)) where
  bel := below_alloc (Below.refl _ _) _
  xl := Nat.le_refl _
  bx := blk_new _ _
  ro := Kd.R_nil _ _ _ _ _
  rw' := Kd.N_nil _ _ _ _ _
  q := fun _ h => h.elim
theorem RcAt.xo (h : RcAt wN P Q xb b vo vw o ws w) : some xb ≠ vo.ownBlock := Kd.R_ne h.ro h.bx (by decide)
theorem RcAt.qw (h : RcAt wN P Q xb b vo vw o ws w) {k : Nat} (hk : vw.ownBlock = some k) : Q k := by
  rcases h.rw'.1 k hk with h1 | h1
  · have := Kd.N_base h.rw' k hk; omega
  · exact h1
theorem RcAt.xw (h : RcAt wN P Q xb b vo vw o ws w) : some xb ≠ vw.ownBlock := fun e => (h.q xb (h.qw e.symm)).2.2.1 rfl
theorem RcAt.ow (h : RcAt wN P Q xb b vo vw o ws w) {k : Nat} (hk : vo.ownBlock = some k) : vw.ownBlock ≠ some k := fun e => (h.q k (h.qw e)).2.2.2 hk.symm
theorem RcAt.orb (h : RcAt wN P Q xb b vo vw o ws w) {o' : List Int} (hR : Kd.R (Kd.int .i64) 3 w1 wN.heap.size (fun _ => True) v1 o') (hg : w.grownBy w1 vo.ownBlock) (hat : v1.ownBlock = vo.ownBlock ∨ ∃ k, v1.ownBlock = some k ∧ w.heap.size ≤ k) : w1.heap[xb]? = some (.cells #[.int .i64 b, vo, vw] 71 (0, 0)) ∧ RcAt wN P Q xb b v1 vw o' ws (w1.setCell ⟨xb, 1, none⟩ v1) := by
  have hx1 := (hg.block xb (blk_lt h.bx) h.xo).trans h.bx
  have hxv : ∀ k, v1.ownBlock = some k → k ≠ xb := fun k hk e => by
    subst e
    rcases hat with h2 | ⟨k', h2, h3⟩
    · exact h.xo (h2.symm.trans hk).symm
    · have := Option.some.inj (hk.symm.trans h2)
      have := blk_lt h.bx
      omega
  refine ⟨hx1, ⟨(pw_below_grown h.bel vo.ownBlock h.bel.size hg (fun k e => Kd.R_base h.ro k e)).setCell h.xl _, h.xl, blk_put hx1 1 v1 rfl, Kd.R_mono (Kd.R_far (Kd.R_tight rfl hR) (p := ⟨xb, 1, none⟩) (fun k hk => hxv k hk.symm) _) (fun _ _ => trivial), ?_, fun k hk => ?_⟩⟩
  · refine Kd.N_far (Kd.N_grown h.rw' hg (fun k hk => ?_)) (p := ⟨xb, 1, none⟩) (fun k hk => ?_) _
    · rcases hk with hk | hk
      · exact fun e => by have := Kd.R_base h.ro k e.symm; have := hk.2; omega
      · exact (h.q k hk).2.2.2
    · rcases hk with hk | hk
      · have := h.xl; have := hk.2; show k ≠ xb; omega
      · exact (h.q k hk).2.2.1
  · have hq := h.q k hk
    refine ⟨hq.1, by rw [show (w1.setCell ⟨xb, 1, none⟩ v1).heap.size = w1.heap.size by simp [World.setCell]]; exact Nat.lt_of_lt_of_le hq.2.1 hg.size, hq.2.2.1, fun e => ?_⟩
    rcases hat with h2 | ⟨k', h2, h3⟩
    · exact hq.2.2.2 (e.trans h2)
    · have := Option.some.inj (e.trans h2); have := hq.2.1; omega
theorem RcAt.wrd (h0 : RcAt wN P Q xb b vo vw o ws w) (hb : Below w.heap.size w w') {ws' : List (List Int)} (hR : Kd.N (Kd.slice 3 (Kd.int .i64)) 49 w1 wN.heap.size (fun k => ((P k ∧ k < wN.heap.size) ∨ Q k) ∨ w.heap.size ≤ k) v1 ws') (hg : w'.grownBy w1 vw.ownBlock) : w1.heap[xb]? = some (.cells #[.int .i64 b, vo, vw] 71 (0, 0)) ∧ RcAt wN P (fun k => Q k ∨ (w.heap.size ≤ k ∧ k < w1.heap.size)) xb b vo v1 o ws' (w1.setCell ⟨xb, 2, none⟩ v1) := by
  have h := h0.below hb
  have hx1 := (hg.block xb (blk_lt h.bx) h.xw).trans h.bx
  have hsz : (w1.setCell ⟨xb, 2, none⟩ v1).heap.size = w1.heap.size := by simp [World.setCell]
  have hq' : ∀ k, (Q k ∨ (w.heap.size ≤ k ∧ k < w1.heap.size)) → wN.heap.size ≤ k ∧ k < w1.heap.size ∧ k ≠ xb ∧ some k ≠ vo.ownBlock := fun k hk => by
    rcases hk with hk | hk
    · have hq := h.q k hk
      exact ⟨hq.1, Nat.lt_of_lt_of_le hq.2.1 hg.size, hq.2.2⟩
    · refine ⟨Nat.le_trans h0.bel.size hk.1, hk.2, ?_, fun e => ?_⟩
      · have := blk_lt h0.bx; have := hk.1; omega
      · have := Kd.R_lt h0.ro k e.symm; have := hk.1; omega
  refine ⟨hx1, ⟨(pw_below_grown h.bel vw.ownBlock h.bel.size hg (fun k e => Kd.N_base h.rw' k e)).setCell h.xl _, h.xl, blk_put hx1 2 v1 rfl, ?_, ?_, fun k hk => by rw [hsz]; exact hq' k hk⟩⟩
  · have ho := Kd.R_far (Kd.R_grown (Kd.R_tight rfl h.ro) hg (fun k hk e => h.ow hk.symm e.symm)) (p := ⟨xb, 2, none⟩) (fun k hk => fun e => h.xo (by rw [← show k = xb from e]; exact hk)) v1
    exact Kd.R_mono ho (fun _ _ => trivial)
  · have hn : Kd.N (Kd.slice 3 (Kd.int .i64)) 49 w1 wN.heap.size (fun k => (P k ∧ k < wN.heap.size) ∨ (Q k ∨ (w.heap.size ≤ k ∧ k < w1.heap.size))) v1 ws' := Kd.N_mono (Kd.N_bound hR) (fun k hk => by
      rcases hk.1 with (h1 | h1) | h1
      · exact .inl h1
      · exact .inr (.inl h1)
      · exact .inr (.inr ⟨h1, hk.2⟩))
    refine Kd.N_far hn (p := ⟨xb, 2, none⟩) (fun k hk => ?_) _
    rcases hk with hk | hk
    · have := h.xl; have := hk.2; show k ≠ xb; omega
    · exact (hq' k hk).2.2.1
theorem rc_lit_perm {W : World} {ok : Nat → Prop} {A2 : Option Addr} {c2 : Nat} {p : List Int} (hle : p.length ≤ c2) (hF : Kd.F (Kd.int .i64) W ok A2 p.length p) (hok : ∀ k, ok k → k < W.heap.size) : Kd.N (Kd.slice 3 (Kd.int .i64)) 49 (W.alloc (.cells #[.slice A2 p.length c2] 49)) 0 (fun k => ok k ∨ k = W.heap.size) (.slice (some ⟨W.heap.size, 0, none⟩) 1 1) [p] := by
  refine ⟨fun k hk => ?_, [[.slice A2 p.length c2]], rfl, ⟨fun k hk => hk.symm, ?_⟩, fun j x c hx hc => ?_⟩
  · have : W.heap.size = k := by simpa [Value.ownBlock] using hk
    exact .inr this.symm
  · refine OwnRow.lit (ps := [[Value.slice A2 p.length c2]]) (inner := [Value.slice A2 p.length c2]) W 0 ⟨rfl, fun j q hj => ?_⟩ (Nat.zero_le _) (show 1 ≤ 9223372036854775807 by decide)
    rcases j with _ | j
    · simp only [List.getElem?_cons_zero, Option.some.injEq] at hj
      subst hj
      exact ⟨rfl, rfl, fun u hu => by have hu' : u ∈ [Value.slice A2 p.length c2] := List.mem_of_mem_take hu; rw [List.mem_singleton] at hu'; subst hu'; rfl⟩
    · simp at hj
  · rcases j with _ | j
    · simp only [List.getElem?_cons_zero, Option.some.injEq] at hx hc
      subst hx hc
      refine Kd.FK_mono (Kd.FK_slice_mk hle (Kd.F_alloc hF _)) (fun k hk => ⟨.inl hk, fun e => ?_⟩)
      have h1 : W.heap.size = k := by simpa [Value.ownBlock] using e.symm
      have := hok k hk
      omega
    · simp at hx
theorem RoAt.push (h : RoAt W0 w va vt all out) {out' : List S71} (hR : Kd.N k71 71 w1 W0.heap.size (fun _ => True) v1 out') (hg : w.grownBy w1 vt.ownBlock) (hat : v1.ownBlock = vt.ownBlock ∨ ∃ k, v1.ownBlock = some k ∧ w.heap.size ≤ k) : RoAt W0 w1 va v1 all out' where
  bel := pw_below_grown h.bel vt.ownBlock h.bel.size hg (fun k e => Kd.N_base h.rt k e)
  ra := Kd.V_mono (Kd.V_grown (Kd.V_bound h.ra) hg (fun k hk => hk.1)) (fun k hk e => by
    rcases hat with h2 | ⟨k', h2, h3⟩
    · exact hk.1 (e.trans h2)
    · have := Option.some.inj (e.trans h2); have := hk.2; omega)
  rt := hR
theorem RoAt.turn (h : RoAt W0 w va vt all out) (hb : Below w.heap.size w w1) (hN : Kd.N (Kd.slice 3 (Kd.int .i64)) 49 w1 w.heap.size (fun k => (some k ≠ vt.ownBlock) ∨ w.heap.size ≤ k) v1 all') : RoAt W0 w1 v1 vt all' out where
  bel := below_then h.bel h.bel.size hb
  ra := Kd.V_mono (Kd.N_V (base' := 0) hN) (fun k hk e => by
    rcases hk with hk | hk
    · exact hk e
    · have := Kd.N_lt h.rt k e.symm; omega)
  rt := Kd.N_below h.rt hb
end
end Go.Proofs.Ytmbldnoepjmhhaa.Bs
end
section
/- What the printed functions of the checks come to, in plain words (loops by induction). -/
namespace Go.Proofs.Ytmbldnoepjmhhaa.Plain
def chkE (n : Int) (p : List Int) : Int := if chk p = 0 then (if (p.length : Int) = n then 0 else 2) else chk p
def chkAll (n : Int) : List (List Int) → Int
  | [] => 0
  | p :: r => if chkE n p = 0 then chkAll n r else chkE n p
def chkG (n : Int) (L : List (List Int)) : Int := if n < 0 then 3 else if 20 < n then 4 else if 32 < L.length then 5 else chkAll n L
end Go.Proofs.Ytmbldnoepjmhhaa.Plain
namespace Go.Proofs.Ytmbldnoepjmhhaa.QBs
open Go.RowKit Go.Proofs.Ytmbldnoepjmhhaa.PBs Go.Proofs.YtmbldnoepjmhhaaW.PrintWords Go.Proofs.YtmbldnoepjmhhaaW.PrintLast Go.Proofs.Ytmbldnoepjmhhaa.Plain
theorem api_Perm_int_149.l_ev (l : List Int) (x : Int) (hl : l.length < 4611686018427387904) : ∀ (d i : Nat), l.length - i = d → i ≤ l.length →
    Ev (fun k => api_Perm_int_149.l0 k l x (l.length : Int) (i : Int)) (if x ∈ l.drop i then ((i + (l.drop i).idxOf x : Nat) : Int) else -1) := by
  intro d
  induction d with
  | zero =>
    intro i hd hi
    have e : l.drop i = [] := List.drop_eq_nil_of_le (by omega)
    rw [e, if_neg (by simp)]
    refine Ev.step (f := fun _ => some (-1)) (fun k => ?_) (Ev.now _)
    simp only [api_Perm_int_149.l0]
    rw [if_neg (by omega)]
  | succ d ih =>
    intro i hd hi
    have hlt : i < l.length := by omega
    have e : l.drop i = l[i] :: l.drop (i + 1) := List.drop_eq_getElem_cons hlt
    by_cases hx : x = l[i]
    · rw [e, if_pos (by rw [hx]; exact List.mem_cons_self ..), ← hx, List.idxOf_cons_self]
      refine Ev.step (f := fun _ => some ((i : Nat) : Int)) (fun k => ?_) (Ev.now _)
      simp only [api_Perm_int_149.l0]
      rw [if_pos (by omega), if_pos (by omega), if_pos (by omega), if_pos (by rw [rd_get l i hlt]; exact hx)]
    · refine Ev.step (f := fun k => api_Perm_int_149.l0 k l x (l.length : Int) ((i + 1 : Nat) : Int)) (fun k => ?_) ?_
      · simp only [api_Perm_int_149.l0]
        rw [if_pos (by omega), if_pos (by omega), if_pos (by omega), if_neg (by rw [rd_get l i hlt]; exact hx), wrap_nat (by omega)]
      · have := ih (i + 1) (by omega) (by omega)
        rw [e]
        by_cases hm : x ∈ l.drop (i + 1)
        · rw [if_pos hm] at this
          have hne : (l[i] == x) = false := beq_eq_false_iff_ne.2 (fun h => hx h.symm)
          rw [if_pos (List.mem_cons_of_mem _ hm), List.idxOf_cons, hne, cond_false]
          rw [show i + ((l.drop (i + 1)).idxOf x + 1) = i + 1 + (l.drop (i + 1)).idxOf x by omega]
          exact this
        · rw [if_neg hm] at this
          rw [if_neg (by rw [List.mem_cons]; exact fun h => h.elim hx hm)]
          exact this
theorem api_Perm_int_149.ev (l : List Int) (x : Int) (hl : l.length < 4611686018427387904) : Ev (fun k => api_Perm_int_149.f k l x) (if x ∈ l then ((l.idxOf x : Nat) : Int) else -1) := by
  have := api_Perm_int_149.l_ev l x hl l.length 0 (by omega) (by omega)
  rw [List.drop_zero, Nat.zero_add] at this
  exact this
theorem api_Perm_int_138.ev (l : List Int) (x : Int) (hl : l.length < 4611686018427387904) : Ev (fun k => api_Perm_int_138.f k l x) (decide (x ∈ l)) := by
  unfold api_Perm_int_138.f
  refine Ev.bind (f := fun _ t => some (decide (t ≥ 0))) (api_Perm_int_149.ev l x hl) ?_
  by_cases h : x ∈ l
  · simp only [if_pos h]
    rw [show decide ((((l.idxOf x : Nat) : Int)) ≥ 0) = decide (x ∈ l) by simp [h]]
    exact Ev.now _
  · simp only [if_neg h]
    rw [show decide ((-1 : Int) ≥ 0) = decide (x ∈ l) by simp [h]]
    exact Ev.now _
theorem perm_Check.l_ev (l : List Int) (hl : l.length ≤ 20) : ∀ (d i : Nat), l.length - i = d → i ≤ l.length →
    Ev (fun k => perm_Check.l0 k l l (l.length : Int) (i : Int)) (chkFrom l d) := by
  intro d
  induction d with
  | zero =>
    intro i hd hi
    refine Ev.step (f := fun _ => some 0) (fun k => ?_) (Ev.now _)
    simp only [perm_Check.l0]
    rw [if_neg (by omega)]
  | succ d ih =>
    intro i hd hi
    have hi' : l.length - (d + 1) = i := by omega
    simp only [chkFrom, hi']
    have hb : ∀ b : Bool, (b = true ↔ (l.getD i 0 < 0 ∨ (l.length : Int) ≤ l.getD i 0)) →
        Ev (fun k => perm_Check.j1 k l (i : Int) (rd l (i : Int)) l (l.length : Int) (i : Int) b) (if l.getD i 0 < 0 ∨ (l.length : Int) ≤ l.getD i 0 then 3 else if l.getD i 0 ∈ l.take i then 24 else chkFrom l d) := by
      intro b hb
      by_cases h : b = true
      · rw [if_pos (hb.1 h)]
        refine Ev.step (f := fun _ => some 3) (fun k => ?_) (Ev.now _)
        simp only [perm_Check.j1]
        rw [if_pos h]
      · rw [if_neg (fun hh => h (hb.2 hh))]
        refine Ev.step (f := fun k => (api_Perm_int_138.f k (l.take i) (rd l (i : Int))).bind fun t => if t = true then some 24 else perm_Check.l0 k l l (l.length : Int) ((i + 1 : Nat) : Int)) (fun k => ?_) ?_
        · simp only [perm_Check.j1]
          rw [if_neg h, if_pos (by omega), if_pos (by omega), wrap_nat (by omega)]
          rfl
        · refine Ev.bind (f := fun k t => if t = true then some 24 else perm_Check.l0 k l l (l.length : Int) ((i + 1 : Nat) : Int)) (api_Perm_int_138.ev _ _ (by rw [List.length_take]; omega)) ?_
          by_cases hm : l.getD i 0 ∈ l.take i
          · rw [if_pos hm]
            exact Ev.congr (f := fun _ => some 24) (fun k => if_pos (decide_eq_true hm)) (Ev.now _)
          · rw [if_neg hm]
            exact Ev.congr (f := fun k => perm_Check.l0 k l l (l.length : Int) ((i + 1 : Nat) : Int)) (fun k => if_neg (fun h => hm (of_decide_eq_true h))) (ih (i + 1) (by omega) (by omega))
    by_cases h0 : rd l (i : Int) < 0
    · refine Ev.step (f := fun k => perm_Check.j1 k l (i : Int) (rd l (i : Int)) l (l.length : Int) (i : Int) true) (fun k => ?_) (hb true ⟨fun _ => .inl h0, fun _ => rfl⟩)
      simp only [perm_Check.l0]
      rw [if_pos (by omega), if_pos (by omega), if_pos (by omega), if_pos h0]
    · refine Ev.step (f := fun k => perm_Check.j1 k l (i : Int) (rd l (i : Int)) l (l.length : Int) (i : Int) (decide (rd l (i : Int) ≥ (l.length : Int)))) (fun k => ?_) (hb _ ?_)
      · simp only [perm_Check.l0]
        rw [if_pos (by omega), if_pos (by omega), if_pos (by omega), if_neg h0]
      · rw [decide_eq_true_iff]
        exact ⟨fun h => .inr h, fun h => h.elim (fun hh => absurd hh h0) id⟩
theorem perm_Check.ev (l : List Int) : Ev (fun k => perm_Check.f k l) (chk l) := by
  unfold perm_Check.f chk
  by_cases h : 20 < l.length
  · rw [if_pos h]
    refine Ev.congr (f := fun _ => some 4) (fun k => ?_) (Ev.now _)
    rw [if_pos (by omega)]
  · rw [if_neg h]
    refine Ev.congr (f := fun k => perm_Check.l0 k l l (l.length : Int) 0) (fun k => ?_) (perm_Check.l_ev l (by omega) _ 0 (by omega) (by omega))
    rw [if_neg (by omega)]
theorem rdL_get (C : List (List Int)) (i : Nat) (h : i < C.length) : rd_L1 C (i : Int) = C[i] := by
  show C.getD i [] = _
  rw [List.getD_eq_getElem?_getD, List.getElem?_eq_getElem h]; rfl
theorem permgroup_element.ev (l : List Int) (n : Int) : Ev (fun k => permgroup_element.f k l n) (chkE n l) := by
  refine Ev.congr (f := fun k => (perm_Check.f k l).bind fun t => if t = 0 then (if (l.length : Int) = n then some t else some 2) else some t) (fun k => rfl) ?_
  refine Ev.bind (perm_Check.ev l) ?_
  unfold chkE
  by_cases h : chk l = 0
  · simp only [h, if_pos rfl]
    by_cases hl : (l.length : Int) = n
    · simp only [if_pos hl]; exact Ev.now _
    · simp only [if_neg hl]; exact Ev.now _
  · simp only [if_neg h]; exact Ev.now _
theorem permgroup_Check.l_ev (L : List (List Int)) (n : Int) (hL : L.length ≤ 32) : ∀ (d i : Nat), L.length - i = d → i ≤ L.length → Ev (fun k => permgroup_Check.l0 k L (L.length : Int) (i : Int) n L) (chkAll n (L.drop i))
  | 0, i, hd, hi => by
    rw [List.drop_eq_nil_of_le (by omega)]
    refine Ev.step (f := fun _ => some 0) (fun k => ?_) (Ev.now _)
    simp only [permgroup_Check.l0]
    rw [if_neg (by omega)]
  | d + 1, i, hd, hi => by
    have hlt : i < L.length := by omega
    rw [List.drop_eq_getElem_cons hlt, chkAll]
    refine Ev.step (f := fun k => (permgroup_element.f k L[i] n).bind fun t => if t = 0 then permgroup_Check.l0 k L (L.length : Int) ((i + 1 : Nat) : Int) n L else some t) (fun k => ?_) ?_
    · simp only [permgroup_Check.l0]
      rw [if_pos (by omega), if_pos (by omega), if_pos (by omega), rdL_get L i hlt, show wrap64 ((i : Int) + 1) = ((i + 1 : Nat) : Int) from (IntWalk.wrap64_in _ ⟨by omega, by omega⟩).trans (by omega)]
    · refine Ev.bind (permgroup_element.ev _ _) ?_
      by_cases h : chkE n L[i] = 0
      · simp only [h, if_pos rfl]; exact permgroup_Check.l_ev L n hL d (i + 1) (by omega) (by omega)
      · simp only [if_neg h]; exact Ev.now _
theorem permgroup_Check.ev (n : Int) (L : List (List Int)) : Ev (fun k => permgroup_Check.f k n L) (chkG n L) := by
  unfold chkG
  by_cases h1 : n < 0
  · rw [if_pos h1]; refine Ev.congr (f := fun _ => some 3) (fun k => ?_) (Ev.now _); simp only [permgroup_Check.f]; rw [if_pos h1]
  · rw [if_neg h1]
    by_cases h2 : 20 < n
    · rw [if_pos h2]; refine Ev.congr (f := fun _ => some 4) (fun k => ?_) (Ev.now _); simp only [permgroup_Check.f]; rw [if_neg h1, if_pos h2]
    · rw [if_neg h2]
      by_cases h3 : 32 < L.length
      · rw [if_pos h3]; refine Ev.congr (f := fun _ => some 5) (fun k => ?_) (Ev.now _); simp only [permgroup_Check.f]; rw [if_neg h1, if_neg h2, if_pos (by omega)]
      · rw [if_neg h3]; refine Ev.congr (f := fun k => permgroup_Check.l0 k L (L.length : Int) ((0 : Nat) : Int) n L) (fun k => ?_) (permgroup_Check.l_ev L n (by omega) _ 0 rfl (by omega)); simp only [permgroup_Check.f]; rw [if_neg h1, if_neg h2, if_neg (by omega)]; rfl
theorem permgroup_with.ev (n : Int) (L : List (List Int)) (p : List Int) : Ev (fun k => permgroup_with.f k n L p) (if chkG n L = 0 then chkE n p else chkG n L) := by
  refine Ev.congr (f := fun k => (permgroup_Check.f k n L).bind fun t => if t = 0 then ((permgroup_element.f k p n).bind fun t2 => some t2) else some t) (fun k => rfl) ?_
  refine Ev.bind (permgroup_Check.ev n L) ?_
  by_cases h : chkG n L = 0
  · simp only [h, if_pos rfl]; exact Ev.bind (permgroup_element.ev p n) (Ev.now _)
  · simp only [if_neg h]; exact Ev.now _
end Go.Proofs.Ytmbldnoepjmhhaa.QBs
end
section
/- The walk of (*Chain).Gens. -/
namespace Go.Proofs.Ytmbldnoepjmhhaa.Bs
open Go.RowKit Go.Proofs.YtmbldnoepjmhhaaW.PrintWords Go.Proofs.YtmbldnoepjmhhaaW.PrintLast Go.Proofs.YtmbldnoepjmhhaaW.PrintMore Go.Proofs.Ytmbldnoepjmhhaa.Plain Go.Proofs.Ytmbldnoepjmhhaa.PBs
open Go.Proofs.Ytmbldnoepjmhhaa.Pms (gensF)
theorem PermIn.below {ρ : Nat → Nat} {w w' : World} {v : Value} {p : List Int} (h : PermIn ρ w v p) (hb : Below w.heap.size w w') : PermIn ρ w' v p := h.move fun b hlt hr => ⟨hr, hb.block b hlt⟩
end Go.Proofs.Ytmbldnoepjmhhaa.Bs
end
