/- The walk of permgroup.Meet. -/
import Derived.Test.YtmbldnoepjmhhaaGreatZPermgroupPairsMg0
import Derived.Test.YtmbldnoepjmhhaaGreatZPermgroupPairsMg2
import Derived.Test.YtmbldnoepjmhhaaGreatZPermgroupPairsMg4
namespace Go.Proofs.YtmbldnoepjmhhaaGreat.Bs
set_option linter.unusedVariables false
set_option linter.unusedSimpArgs false
open Go.RowKit Go.Proofs.YtmbldnoepjmhhaaGreatW.PrintWords Go.Proofs.YtmbldnoepjmhhaaGreatW.PrintLast Go.Proofs.YtmbldnoepjmhhaaGreatW.PrintMore Go.Proofs.YtmbldnoepjmhhaaGreat.Plain Go.Proofs.YtmbldnoepjmhhaaGreat.PBs
theorem permIn_of_R {ρ : Nat → Nat} {N : Nat} {w : World} {v : Value} {p : List Int} (h : Kd.R (Kd.int .i64) 3 w N (fun _ => True) v p) (hf : ∀ b, N ≤ b → ρ b = 0) : PermIn ρ w v p := Kd.V_mono (Kd.R_V (Kd.R_bound h)) (fun k hk => hf k hk.2.1)
theorem perm_mark {ρ : Nat → Nat} {w : World} {v : Value} {p : List Int} {g t : Nat} (h : PermIn ρ w v p) (hg : w.heap[g]? = some (.cells #[.pointer none] t (0, 0))) : PermIn (fun b => if b = g then 999 else ρ b) w v p := by
  obtain ⟨A, c, rfl, hl, hF⟩ := h
  have hC := Kd.F_now hF
  refine ⟨A, c, rfl, hl, fun W' hW => ?_⟩
  rcases Nat.eq_zero_or_pos p.length with h0 | h0
  · obtain rfl := List.eq_nil_of_length_eq_zero h0
    exact ⟨hC.1, hC.2.1, fun h => absurd h (Nat.lt_irrefl 0)⟩
  · obtain ⟨ad, rfl, hc⟩ := hC.2.2 h0
    have hok : ρ ad.block = 0 := Kd.F_in hF rfl h0 (by decide)
    obtain ⟨cs0, _, hK0, h00⟩ := hc 0 _ (List.getElem?_eq_getElem h0)
    have hK0 : cs0 = [.int .i64 p[0]] := hK0
    subst hK0
    have hcell := h00 0 _ rfl
    have hlt : ad.block < w.heap.size := by have := World.block_lt_of_cell? w _ hcell; rwa [add_block] at this
    have hne : ad.block ≠ g := fun e => by
      rw [World.cell?, add_block, e, hg] at hcell
      obtain ⟨b0, o0, q0⟩ := ad
      simp only [Addr.add] at hcell
      cases q0 with
      | none => rcases o0 with _ | o0 <;> simp at hcell
      | some q0 => simp at hcell
    have hb : W'.heap[ad.block]? = w.heap[ad.block]? := hW ad.block (by show (if ad.block = g then 999 else ρ ad.block) = 0; rw [if_neg hne]; exact hok) hlt
    exact ⟨hC.1, hC.2.1, fun _ => ⟨ad, rfl, fun j x hj => by
      obtain ⟨cs, h1, h2, h3⟩ := hc j x hj
      exact ⟨cs, h1, h2, fun i u hu => (World.cell?_of_block (w := w) (w' := W') (by rw [add_block]; exact hb)).trans (h3 i u hu)⟩⟩⟩
theorem word_mark {ρ : Nat → Nat} {w : World} {v : Value} {o : Option (List Int)} {g t : Nat} (h : WordIn ρ w v o) (hg : w.heap[g]? = some (.cells #[.pointer none] t (0, 0))) : WordIn (fun b => if b = g then 999 else ρ b) w v o := by
  cases o with
  | none => exact h
  | some p => exact ⟨perm_mark h.1 hg, h.2⟩
theorem ChainAt.mark {ρ : Nat → Nat} {w : World} {base c capL g t : Nat} {la : Option Addr} {C : Ch} {d : Nat → LD} (h : ChainAt ρ w base c la capL C d) (hg : w.heap[g]? = some (.cells #[.pointer none] t (0, 0))) (hb : g < base) : ChainAt (fun b => if b = g then 999 else ρ b) w 0 c la capL C d := by
  have hg0 : ρ g = 0 := Classical.byContradiction fun e => by have := h.rb g e; omega
  have hgl : g < w.heap.size := blk_lt hg
  have hne : ∀ b r, ρ b = r → r ≠ 0 → (if b = g then 999 else ρ b) = r := fun b r e hr => by
    by_cases e2 : b = g
    · subst e2; rw [hg0] at e; exact absurd e.symm hr
    · rw [if_neg e2]; exact e
  exact {
    len := h.len
    small := h.small
    fresh := fun b hle => by
      show (if b = g then 999 else ρ b) = 0
      rw [if_neg (by omega)]; exact h.fresh b hle
    rb := fun b _ => Nat.zero_le _
    rc := by
      show (if c = g then 999 else ρ c) = 0
      rw [if_neg (fun e => ?_)]
      · exact h.rc
      · have := h.hn
        rw [e, World.cell?, hg] at this
        simp at this
    hn := h.hn
    hl := h.hl
    hcap := h.hcap
    ls := fun h0 => by
      obtain ⟨b, e, hr, hc⟩ := h.ls h0
      refine ⟨b, e, ?_, hc⟩
      show (if b = g then 999 else ρ b) = 0
      rw [if_neg (fun e2 => ?_)]
      · exact hr
      · have := hc 0 h0
        rw [e2, World.cell?, hg] at this
        simp at this
    lv := fun k L hL => by
      have l := (h.lower (Nat.zero_le base)).lv k L hL
      exact { rl := hne _ _ l.rl (by omega), rw' := hne _ _ l.rw' (by omega), ro := fun b e => hne _ _ (l.ro b e) (by omega), rg := fun b e => hne _ _ (l.rg b e) (by omega), c1 := l.c1, c2 := l.c2, c3 := l.c3, c0 := l.c0, fr := l.fr, wrd := l.wrd, wlen := l.wlen, wp := fun x v o h1 h2 => word_mark (l.wp x v o h1 h2) hg, orb := l.orb, gen := l.gen, glen := l.glen, gp := fun j v p h1 h2 => perm_mark (l.gp j v p h1 h2) hg } }
theorem ChainAt.mark_new {ρ : Nat → Nat} {w : World} {base c capL : Nat} {la : Option Addr} {C : Ch} {d : Nat → LD} (h : ChainAt ρ w base c la capL C d) (o : Obj) : ChainAt (fun b => if b = w.heap.size then 999 else ρ b) (w.alloc o) 0 c la capL C d := by
  have hs : (w.alloc o).heap.size = w.heap.size + 1 := by simp
  have hbl : Below w.heap.size w (w.alloc o) := below_alloc (Below.refl _ _) _
  have hold : ∀ b, b < w.heap.size → (if b = w.heap.size then 999 else ρ b) = ρ b := fun b hb => if_neg (by omega)
  exact {
    len := h.len
    small := h.small
    fresh := fun b hle => by
      rw [hs] at hle
      show (if b = w.heap.size then 999 else ρ b) = 0
      rw [if_neg (by omega)]; exact h.fresh b (by omega)
    rb := fun b _ => Nat.zero_le _
    rc := (hold c (World.block_lt_of_cell? w _ h.hn)).trans h.rc
    hn := cell_move h.hn (fun hlt => hbl.block _ hlt)
    hl := cell_move h.hl (fun hlt => hbl.block _ hlt)
    hcap := h.hcap
    ls := fun h0 => by
      obtain ⟨b, e, hr, hc⟩ := h.ls h0
      exact ⟨b, e, (hold b (World.block_lt_of_cell? w _ (hc 0 h0))).trans hr, fun k hk => cell_move (hc k hk) (fun hlt => hbl.block _ hlt)⟩
    lv := fun k L hL => ((h.lower (Nat.zero_le base)).lv k L hL).move hold (fun b hlt _ => hbl.block b hlt) }
theorem ChainAt.set999 {ρ : Nat → Nat} {w : World} {base c capL g : Nat} {la : Option Addr} {C : Ch} {d : Nat → LD} (h : ChainAt ρ w base c la capL C d) (hg : ρ g = 999) (u : Value) : ChainAt ρ (w.setCell ⟨g, 0, none⟩ u) base c la capL C d := by
  have hs : (w.setCell ⟨g, 0, none⟩ u).heap.size = w.heap.size := by simp [World.setCell]
  have hne : ∀ b, ρ b ≠ 999 → (w.setCell ⟨g, 0, none⟩ u).heap[b]? = w.heap[b]? := fun b hb => Below.heap_setCell w ⟨g, 0, none⟩ u b (fun e => hb (by rw [show b = g from e]; exact hg))
  exact {
    len := h.len
    small := h.small
    fresh := fun b hle => h.fresh b (by rw [hs] at hle; exact hle)
    rb := h.rb
    rc := h.rc
    hn := cell_move h.hn (fun _ => hne c (by rw [h.rc]; decide))
    hl := cell_move h.hl (fun _ => hne c (by rw [h.rc]; decide))
    hcap := h.hcap
    ls := fun h0 => by
      obtain ⟨b, e, hr, hc⟩ := h.ls h0
      exact ⟨b, e, hr, fun k hk => cell_move (hc k hk) (fun _ => hne b (by rw [hr]; decide))⟩
    lv := fun k L hL => (h.lv k L hL).move (fun _ _ => rfl) (fun b _ hr => hne b (by have := h.klt hL; have := h.small; omega)) }
structure MtAt (w0 : World) (c1 c2 pb : Nat) (C D : Ch) (w : World) : Prop where
  bel : Below w0.heap.size w0 w
  blk : w.heap[pb]? = some (.cells #[.pointer (some ⟨c2, 0, none⟩)] 95 (0, 0))
  pbl : w0.heap.size ≤ pb
  one : ∃ ρ base capL la d, ChainAt ρ w base c1 la capL C d ∧ ρ pb = 999
  two : ∃ ρ base capL la d, ChainAt ρ w base c2 la capL D d ∧ ρ pb = 999
section
variable {w0 w1 w2 w3 w w' : World} {c1 c2 pb : Nat} {C D : Ch} {ρC ρD : Nat → Nat} {bC bD kC kD : Nat} {lC lD : Option Addr} {dC dD : Nat → LD}
theorem MtAt.below (h : MtAt w0 c1 c2 pb C D w) (hb : Below w.heap.size w w') : MtAt w0 c1 c2 pb C D w' where
  bel := below_then h.bel h.bel.size hb
  blk := (hb.block _ (blk_lt h.blk)).trans h.blk
  pbl := h.pbl
  one := by obtain ⟨ρ, base, capL, la, d, hC, e⟩ := h.one; exact ⟨ρ, base, capL, la, d, hC.below hb, e⟩
  two := by obtain ⟨ρ, base, capL, la, d, hC, e⟩ := h.two; exact ⟨ρ, base, capL, la, d, hC.below hb, e⟩
theorem MtAt.cell (h : MtAt w0 c1 c2 pb C D w) : w.cell? ⟨pb, 0, none⟩ = some (.pointer (some ⟨c2, 0, none⟩)) := blk_cell h.blk 0
theorem MtAt.frozen (h : MtAt w0 c1 c2 pb C D w) : w.frozen? ⟨pb, 0, none⟩ = false := blk_frozen h.blk 0
theorem MtAt.all (h : MtAt w0 c1 c2 pb C D w) : Below w0.heap.size w0 w := h.bel
theorem MtAt.ch1 (h : MtAt w0 c1 c2 pb C D w) : ∃ ρ base capL la d, ChainAt ρ w base c1 la capL C d := by obtain ⟨ρ, base, capL, la, d, hC, _⟩ := h.one; exact ⟨ρ, base, capL, la, d, hC⟩
theorem MtAt.ch2 (h : MtAt w0 c1 c2 pb C D w) : ∃ ρ base capL la d, ChainAt ρ w base c2 la capL D d := by obtain ⟨ρ, base, capL, la, d, hC, _⟩ := h.two; exact ⟨ρ, base, capL, la, d, hC⟩
theorem MtAt.turn (h : MtAt w0 c1 c2 pb C D w) : MtAt w0 c2 c1 pb D C (w.setCell ⟨pb, 0, none⟩ (.pointer (some ⟨c1, 0, none⟩))) where
  bel := h.bel.setCell h.pbl _
  blk := blk_put h.blk 0 _ rfl
  pbl := h.pbl
  one := by obtain ⟨ρ, base, capL, la, d, hC, e⟩ := h.two; exact ⟨ρ, base, capL, la, d, hC.set999 e _, e⟩
  two := by obtain ⟨ρ, base, capL, la, d, hC, e⟩ := h.one; exact ⟨ρ, base, capL, la, d, hC.set999 e _, e⟩
theorem bel_ad (hb : Below (w.alloc (.cells #[.pointer none] 95)).drew.heap.size (w.alloc (.cells #[.pointer none] 95)).drew w') : Below (w.alloc (.cells #[.pointer none] 95)).heap.size (w.alloc (.cells #[.pointer none] 95)) w' := below_step (below_drew (Below.refl _ _)) hb
theorem bel_a (hb : Below (w.alloc (.cells #[.pointer none] 95)).heap.size (w.alloc (.cells #[.pointer none] 95)) w') : Below (w.alloc (.cells #[.pointer none] 95)).heap.size (w.alloc (.cells #[.pointer none] 95)) w' := hb
theorem bel_d (hb : Below w.drew.heap.size w.drew w') : Below w.heap.size w w' := below_step (below_drew (Below.refl _ _)) hb
theorem MtAt.a1 (h1 : ChainAt ρC w3 bC c1 lC kC C dC) (h2 : ChainAt ρD w3 bD c2 lD kD D dD) (hb : Below w0.heap.size w0 w3) : MtAt w0 c1 c2 w3.heap.size C D (w3.alloc (.cells #[.pointer (some ⟨c2, 0, none⟩)] 95)) where
  bel := below_alloc hb _
  blk := blk_new _ _
  pbl := hb.size
  one := ⟨_, _, _, _, _, h1.mark_new _, if_pos rfl⟩
  two := ⟨_, _, _, _, _, h2.mark_new _, if_pos rfl⟩
theorem MtAt.a2 (h1 : ChainAt ρC w3 bC c1 lC kC C dC) (h2 : ChainAt ρD w3 bD c2 lD kD D dD) (hb : Below w0.heap.size w0 w3) : MtAt w0 c1 c2 w3.heap.size C D ((w3.alloc (.cells #[.pointer none] 95)).setCell ⟨w3.heap.size, 0, none⟩ (.pointer (some ⟨c2, 0, none⟩))) where
  bel := (below_alloc hb _).setCell hb.size _
  blk := blk_put (blk_new _ _) 0 _ rfl
  pbl := hb.size
  one := ⟨_, _, _, _, _, (h1.mark_new _).set999 (if_pos rfl) _, if_pos rfl⟩
  two := ⟨_, _, _, _, _, (h2.mark_new _).set999 (if_pos rfl) _, if_pos rfl⟩
theorem MtAt.b (h1 : ChainAt ρC w2 bC c1 lC kC C dC) (hb3 : Below (w2.alloc (.cells #[.pointer none] 95)).heap.size (w2.alloc (.cells #[.pointer none] 95)) w3) (h2 : ChainAt ρD w3 bD c2 lD kD D dD) (hbD : w2.heap.size < bD) (hb : Below w0.heap.size w0 w2) : MtAt w0 c1 c2 w2.heap.size C D (w3.setCell ⟨w2.heap.size, 0, none⟩ (.pointer (some ⟨c2, 0, none⟩))) := by
  have hq : w3.heap[w2.heap.size]? = some (.cells #[.pointer none] 95 (0, 0)) := (hb3.block _ (by simp)).trans (blk_new _ _)
  exact {
    bel := (below_then (below_alloc hb _) (by simp; exact Nat.le_succ_of_le hb.size) hb3).setCell hb.size _
    blk := blk_put hq 0 _ rfl
    pbl := hb.size
    one := ⟨_, _, _, _, _, ((h1.mark_new _).below hb3).set999 (if_pos rfl) _, if_pos rfl⟩
    two := ⟨_, _, _, _, _, (h2.mark hq hbD).set999 (if_pos rfl) _, if_pos rfl⟩ }
theorem MtAt.c (hb2 : Below (w1.alloc (.cells #[.pointer none] 95)).heap.size (w1.alloc (.cells #[.pointer none] 95)) w2) (h1 : ChainAt ρC w2 bC c1 lC kC C dC) (hbC : w1.heap.size < bC) (hb3 : Below w2.heap.size w2 w3) (h2 : ChainAt ρD w3 bD c2 lD kD D dD) (hbD : w1.heap.size < bD) (hb : Below w0.heap.size w0 w1) : MtAt w0 c1 c2 w1.heap.size C D (w3.setCell ⟨w1.heap.size, 0, none⟩ (.pointer (some ⟨c2, 0, none⟩))) := by
  have hq : w2.heap[w1.heap.size]? = some (.cells #[.pointer none] 95 (0, 0)) := (hb2.block _ (by simp)).trans (blk_new _ _)
  have hq3 := (hb3.block _ (blk_lt hq)).trans hq
  have hb12 : Below w0.heap.size w0 w2 := below_then (below_alloc hb _) (by simp; exact Nat.le_succ_of_le hb.size) hb2
  exact {
    bel := (below_then hb12 hb12.size hb3).setCell hb.size _
    blk := blk_put hq3 0 _ rfl
    pbl := hb.size
    one := ⟨_, _, _, _, _, ((h1.mark hq hbC).below hb3).set999 (if_pos rfl) _, if_pos rfl⟩
    two := ⟨_, _, _, _, _, (h2.mark hq3 hbD).set999 (if_pos rfl) _, if_pos rfl⟩ }
end
set_option maxHeartbeats 4000000 in
set_option maxRecDepth 100000 in
theorem meetClo {w0 : World} {pb : Nat} {all : List (List Int)} {ρ : Nat → Nat} {base c capL : Nat} {la : Option Addr} {C : Ch} {d : Nat → LD} (hcell : w0.cell? ⟨pb, 0, none⟩ = some (.pointer (some ⟨c, 0, none⟩))) (hC : ChainAt ρ w0 base c la capL C d) (hr : ∀ p ∈ all, (C.contains p).isSome = true) : CloMeet w0 pb all (fun p => (C.contains p).getD false) := by
  intro W v p hB hp hv
  have hpa := PermAt.of_R hv
  have hc := cell_move (w' := W) hcell (fun hlt => hB.block _ hlt)
  have HCW := Aside0.mk (hC.below hB)
  have HPI : Aside0 (PermIn ρ W v p) := ⟨permIn_of_R hv hC.fresh⟩
  obtain ⟨r, hrr⟩ := Option.isSome_iff_exists.1 (hr p hp)
  have HR := Aside0.mk hrr
  obtain ⟨A, cc, rfl, hle, hCC⟩ := hpa
  show Calls _ _ _ W fun e w' => e = .returned (.bool (!(C.contains p).getD false)) ∧ Below W.heap.size W w'
  rw [hrr]
  clear hv hr hp hcell hB hle hCC hC hrr
  go_enter Tryz.func81, Tryz.ntmps81
  go_wp2_with (go_at_call 82; (refine (contains_any C p r _ ρ _ c capL la d _ HCW.out HPI.out HR.out).mono ?_); rintro e w1 ⟨rfl, hb1⟩; have HB1 := Aside0.mk hb1; clear hb1)
  go_ret
  exact ⟨rfl, HB1.out⟩
def meetV (a : Int) (C D : Ch) : Option (Int × List (List Int) × Int) := if 5040 < belowF C 0 then some (0, [], 5) else (elements C).bind fun all => if 0 < all.length ∧ all.length ≤ 100000 ∧ ∀ p ∈ all, (D.contains p).isSome = true then (reducedM a.toNat (all.filter fun p => (D.contains p).getD false)).bind fun r => some (a, r, 0) else none
def permgroup_Meet.f (k : Nat) (a0_0 : Int) (l0_1 : List (List Int)) (a1_0 : Int) (l1_1 : List (List Int)) : Option (Int × List (List Int) × Int) := (permgroup_two.f k a0_0 l0_1 a1_0 l1_1).bind fun e => if e = 0 then (if 0 ≤ a0_0 ∧ a0_0 ≤ 20 ∧ 0 ≤ a1_0 ∧ a1_0 ≤ 20 then (new_ a0_0.toNat l0_1).bind fun C => (new_ a1_0.toNat l1_1).bind fun D => if belowF D 0 < belowF C 0 then meetV a0_0 D C else meetV a0_0 C D else none) else some (0, [], e)
theorem permgroup_Meet.mono : ∀ a0_0 l0_1 a1_0 l1_1 k, LeO (permgroup_Meet.f k a0_0 l0_1 a1_0 l1_1) (permgroup_Meet.f (k + 1) a0_0 l0_1 a1_0 l1_1) := fun _ _ _ _ k => LeO.bind (permgroup_two.mono _ _ _ _ _) (fun _ => LeO.refl _)
set_option maxHeartbeats 16000000 in
set_option maxRecDepth 100000 in
theorem permgroup_Meet.calls (k : Nat) (a0_0 : Int) (A0_1 : Option Addr) (c0_1 : Nat) (l0_1 : List (List Int)) (a1_0 : Int) (A1_1 : Option Addr) (c1_1 : Nat) (l1_1 : List (List Int)) (r1 : Int) (r2 : List (List Int)) (r3 : Int) (w : World) (hr0_1 : Kd.C (Kd.slice 3 (Kd.int .i64)) w A0_1 l0_1.length l0_1) (hc0_1 : l0_1.length ≤ c0_1) (hr1_1 : Kd.C (Kd.slice 3 (Kd.int .i64)) w A1_1 l1_1.length l1_1) (hc1_1 : l1_1.length ≤ c1_1) (h : permgroup_Meet.f k a0_0 l0_1 a1_0 l1_1 = some (r1, r2, r3)) :
    Calls Tryz.prog 31 #[.agg #[.int .i64 a0_0, .slice A0_1 l0_1.length c0_1], .agg #[.int .i64 a1_0, .slice A1_1 l1_1.length c1_1]] w fun e w' => ∃ v1_ : Value, e = .returned (.tuple #[.agg #[.int .i64 r1, v1_], .int .i64 r3]) ∧ Kd.S (Kd.slice 3 (Kd.int .i64)) 39 w' w.heap.size (fun _ => True) v1_ r2 ∧ Below w.heap.size w w' := by
  have hu := Tryz.underlying24
  have hmf : ∀ (fn : Fn) (first cap : Array Value) (w : World), (Instr.makeFunc fn first cap).run Tryz.prog w = .ok (.func fn first cap) w := fun _ _ _ _ => rfl
  have HC := Aside0.mk hc0_1
  have HC2 := Aside0.mk hc1_1
  have HB0 : Aside0 (Below w.heap.size w (((w.alloc (.cells #[.int .i64 a0_0, .slice A0_1 l0_1.length c0_1] 24)).alloc (.cells #[.int .i64 a1_0, .slice A1_1 l1_1.length c1_1] 24)).alloc (.cells #[.int .i64 0, .slice none 0 0] 24))) := ⟨below_alloc (below_alloc (below_alloc (Below.refl _ _) _) _) _⟩
  have HG := Aside0.mk (Kd.C_below hr0_1 HB0.out)
  have HG2 := Aside0.mk (Kd.C_below hr1_1 HB0.out)
  have hx0 : (((w.alloc (.cells #[.int .i64 a0_0, .slice A0_1 l0_1.length c0_1] 24)).alloc (.cells #[.int .i64 a1_0, .slice A1_1 l1_1.length c1_1] 24)).alloc (.cells #[.int .i64 0, .slice none 0 0] 24)).cell? ⟨w.heap.size, 0, none⟩ = some (.int .i64 a0_0) := by rw [World.cell?_alloc_past _ _ _ (by simp; omega), World.cell?_alloc_past _ _ _ (by simp), World.cell?_alloc_at _ _ _ _ rfl]; rfl
  have hx1 : (((w.alloc (.cells #[.int .i64 a0_0, .slice A0_1 l0_1.length c0_1] 24)).alloc (.cells #[.int .i64 a1_0, .slice A1_1 l1_1.length c1_1] 24)).alloc (.cells #[.int .i64 0, .slice none 0 0] 24)).cell? ⟨w.heap.size, 1, none⟩ = some (.slice A0_1 l0_1.length c0_1) := by rw [World.cell?_alloc_past _ _ _ (by simp; omega), World.cell?_alloc_past _ _ _ (by simp), World.cell?_alloc_at _ _ _ _ rfl]; rfl
  have hy0 : (((w.alloc (.cells #[.int .i64 a0_0, .slice A0_1 l0_1.length c0_1] 24)).alloc (.cells #[.int .i64 a1_0, .slice A1_1 l1_1.length c1_1] 24)).alloc (.cells #[.int .i64 0, .slice none 0 0] 24)).cell? ⟨w.heap.size + 1, 0, none⟩ = some (.int .i64 a1_0) := by rw [World.cell?_alloc_past _ _ _ (by simp), World.cell?_alloc_at _ _ _ _ (by simp)]; rfl
  have hy1 : (((w.alloc (.cells #[.int .i64 a0_0, .slice A0_1 l0_1.length c0_1] 24)).alloc (.cells #[.int .i64 a1_0, .slice A1_1 l1_1.length c1_1] 24)).alloc (.cells #[.int .i64 0, .slice none 0 0] 24)).cell? ⟨w.heap.size + 1, 1, none⟩ = some (.slice A1_1 l1_1.length c1_1) := by rw [World.cell?_alloc_past _ _ _ (by simp), World.cell?_alloc_at _ _ _ _ (by simp)]; rfl
  have hz : (((w.alloc (.cells #[.int .i64 a0_0, .slice A0_1 l0_1.length c0_1] 24)).alloc (.cells #[.int .i64 a1_0, .slice A1_1 l1_1.length c1_1] 24)).alloc (.cells #[.int .i64 0, .slice none 0 0] 24)).heap[w.heap.size + 1 + 1]? = some (.cells #[.int .i64 0, .slice none 0 0] 24 (0, 0)) := by have := blk_new ((w.alloc (.cells #[.int .i64 a0_0, .slice A0_1 l0_1.length c0_1] 24)).alloc (.cells #[.int .i64 a1_0, .slice A1_1 l1_1.length c1_1] 24)) (.cells #[.int .i64 0, .slice none 0 0] 24); simpa using this
  have hsz : w.heap.size + 1 + 1 < (((w.alloc (.cells #[.int .i64 a0_0, .slice A0_1 l0_1.length c0_1] 24)).alloc (.cells #[.int .i64 a1_0, .slice A1_1 l1_1.length c1_1] 24)).alloc (.cells #[.int .i64 0, .slice none 0 0] 24)).heap.size := by simp
  have HX0 := Aside0.mk hx0
  have HX1 := Aside0.mk hx1
  have HY0 := Aside0.mk hy0
  have HY1 := Aside0.mk hy1
  have HZ := Aside0.mk hz
  have HSZ := Aside0.mk hsz
  clear hx0 hx1 hy0 hy1 hz hsz
  unfold permgroup_Meet.f at h
  replace h := Option.bind_eq_some_iff.1 h
  obtain ⟨e, h1, h⟩ := h
  have A1' := Aside0.mk h1
  clear hr0_1 hc0_1 h1 hr1_1 hc1_1
  by_cases e0 : e = 0
  · rw [if_pos e0] at h
    have hr : 0 ≤ a0_0 ∧ a0_0 ≤ 20 ∧ 0 ≤ a1_0 ∧ a1_0 ≤ 20 := by
      by_cases hr : 0 ≤ a0_0 ∧ a0_0 ≤ 20 ∧ 0 ≤ a1_0 ∧ a1_0 ≤ 20
      · exact hr
      · rw [if_neg hr] at h; cases h
    rw [if_pos hr] at h
    obtain ⟨n, rfl⟩ : ∃ n : Nat, a0_0 = (n : Int) := ⟨a0_0.toNat, by omega⟩
    obtain ⟨n1, rfl⟩ : ∃ n1 : Nat, a1_0 = (n1 : Int) := ⟨a1_0.toNat, by omega⟩
    rw [Int.toNat_natCast, Int.toNat_natCast] at h
    replace h := Option.bind_eq_some_iff.1 h
    obtain ⟨C, hC, h⟩ := h
    replace h := Option.bind_eq_some_iff.1 h
    obtain ⟨D, hD, h⟩ := h
    have AC' := Aside0.mk hC
    have AD' := Aside0.mk hD
    have HN : Aside0 (n ≤ 20) := ⟨by omega⟩
    have HN1 : Aside0 (n1 ≤ 20) := ⟨by omega⟩
    have H := Aside0.mk h
    subst e0
    clear hC hD hr h
    go_enter Tryz.func31, Tryz.ntmps31
    go_upto_region 4 with (go_at_call 74; (refine (permgroup_two.calls k (n : Int) A0_1 c0_1 l0_1 (n1 : Int) A1_1 c1_1 l1_1 0 _ HG.out HC.out HG2.out HC2.out A1'.out).mono ?_); rintro e w1 ⟨rfl, hb1⟩; have HB1 := Aside0.mk (below_step (w := (((w.alloc (.cells #[.int .i64 (n : Int), .slice A0_1 l0_1.length c0_1] 24)).alloc (.cells #[.int .i64 (n1 : Int), .slice A1_1 l1_1.length c1_1] 24)).alloc (.cells #[.int .i64 0, .slice none 0 0] 24))) (Below.refl _ _) hb1); have HG1 := Aside0.mk (Kd.C_below HG.out hb1); have HH1 := Aside0.mk (Kd.C_below HG2.out hb1); have hx0 := cell_move (w' := w1) HX0.out (fun hlt => hb1.block _ hlt); have hx1 := cell_move (w' := w1) HX1.out (fun hlt => hb1.block _ hlt); have hy0 := cell_move (w' := w1) HY0.out (fun hlt => hb1.block _ hlt); have hy1 := cell_move (w' := w1) HY1.out (fun hlt => hb1.block _ hlt); clear hb1)
    go_cut [7, 8] (fun v7 v8 wx => ∃ (c1 c2 pb : Nat), v7 = .pointer (some ⟨c1, 0, none⟩) ∧ v8 = .pointer (some ⟨pb, 0, none⟩) ∧ Aside0 (MtAt (((w.alloc (.cells #[.int .i64 (n : Int), .slice A0_1 l0_1.length c0_1] 24)).alloc (.cells #[.int .i64 (n1 : Int), .slice A1_1 l1_1.length c1_1] 24)).alloc (.cells #[.int .i64 0, .slice none 0 0] 24)) c1 c2 pb C D wx))
    case first =>
      have hz0 : w.heap.size < w1.heap.size := World.block_lt_of_cell? w1 _ hx0
      have hz1 : w.heap.size + 1 < w1.heap.size := World.block_lt_of_cell? w1 _ hy0
      go_region_law (first
        | (go_simp; go_at_call 78; (refine (chain_any n1 HN1.out l1_1 A1_1 c1_1 _ (Kd.C_below HH2.out bel0) HC2.out D AD'.out).mono ?_); rintro e w3 ⟨cD, laD, capD, ρD, dD, rfl, hCh, hb3⟩; have HCD := Aside0.mk hCh; (first | (have HR3 := Aside0.mk (bel_ad (w := w2) hb3)) | (have HR3 := Aside0.mk (bel_a (w := w2) hb3)) | (have HR3 := Aside0.mk (bel_d (w := w2) hb3)) | (have HR3 := Aside0.mk hb3)); have HB3 := Aside0.mk (below_step (w := w2) bel0 hb3); replace hx0 := cell_move hx0 (fun hlt => HB3.out.block _ hlt); replace hx1 := cell_move hx1 (fun hlt => HB3.out.block _ hlt); replace hy0 := cell_move hy0 (fun hlt => HB3.out.block _ hlt); replace hy1 := cell_move hy1 (fun hlt => HB3.out.block _ hlt); (first | (have hq3 := (hb3.block _ (by simp)).trans (blk_new w2 (.cells #[.pointer none] 95)); have hqc := blk_cell hq3 0; have hqf := blk_frozen hq3 0; simp only [List.getElem?_toArray, List.getElem?_cons_zero] at hqc) | (have hq3 := (hb3.block _ (blk_lt hq2)).trans hq2; have hqc := blk_cell hq3 0; have hqf := blk_frozen hq3 0; simp only [List.getElem?_toArray, List.getElem?_cons_zero] at hqc) | skip); clear hCh hb3)
        | (go_simp; go_at_call 78; (refine (chain_any n HN.out l0_1 A0_1 c0_1 _ (Kd.C_below HG1.out bel0) HC.out C AC'.out).mono ?_); rintro e w2 ⟨cC, laC, capC, ρC, dC, rfl, hCh, hb2⟩; have HCC := Aside0.mk hCh; (first | (have HR2 := Aside0.mk (bel_ad (w := w1) hb2)) | (have HR2 := Aside0.mk (bel_a (w := w1) hb2)) | (have HR2 := Aside0.mk (bel_d (w := w1) hb2)) | (have HR2 := Aside0.mk hb2)); have HB2 := Aside0.mk (below_step (w := w1) bel0 hb2); have HH2 := Aside0.mk (Kd.C_below HH1.out HB2.out); replace hx0 := cell_move hx0 (fun hlt => HB2.out.block _ hlt); replace hx1 := cell_move hx1 (fun hlt => HB2.out.block _ hlt); replace hy0 := cell_move hy0 (fun hlt => HB2.out.block _ hlt); replace hy1 := cell_move hy1 (fun hlt => HB2.out.block _ hlt); have hz2 : w.heap.size < w2.heap.size := World.block_lt_of_cell? w2 _ hx0; have hz3 : w.heap.size + 1 < w2.heap.size := World.block_lt_of_cell? w2 _ hy0; (first | (have hq2 := (hb2.block _ (by simp)).trans (blk_new w1 (.cells #[.pointer none] 95))) | skip); clear hCh hb2))
      all_goals
        go_wp2_with fail
        go_meet
        first
        | exact ⟨_, _, _, rfl, rfl, ⟨MtAt.b HCC.out HR3.out HCD.out (by simp) (below_step HB1.out HB2.out)⟩⟩
        | exact ⟨_, _, _, rfl, rfl, ⟨MtAt.a1 (HCC.out.below HB3.out) HCD.out (below_step HB1.out (below_step HB2.out HB3.out))⟩⟩
        | exact ⟨_, _, _, rfl, rfl, ⟨MtAt.a2 (HCC.out.below HB3.out) HCD.out (below_step HB1.out (below_step HB2.out HB3.out))⟩⟩
        | exact ⟨_, _, _, rfl, rfl, ⟨MtAt.c HR2.out HCC.out (by simp) HR3.out HCD.out (by first | exact blk_lt hq2 | (have := blk_lt hq2; simp; omega)) HB1.out⟩⟩
    case rest =>
      obtain ⟨c1, c2, pb, rfl, rfl, HM⟩ := hcut
      clear hx0 hx1 hy0 hy1 HG1 HH1 HB1
      obtain ⟨ρC, baseC, capC, laC, dC, hchC⟩ := HM.out.ch1
      obtain ⟨ρD, baseD, capD, laD, dD, hchD⟩ := HM.out.ch2
      have HCC := Aside0.mk hchC
      have HCD := Aside0.mk hchD
      have hcp := HM.out.cell
      clear hchC hchD
      obtain ⟨oC, hoC'⟩ : ∃ o, belowF C 0 = o := ⟨_, rfl⟩
      obtain ⟨oD, hoD'⟩ : ∃ o, belowF D 0 = o := ⟨_, rfl⟩
      have hoC := Aside0.mk hoC'
      have hoD := Aside0.mk hoD'
      have h := H.out
      rw [hoC', hoD'] at h
      clear hoC' hoD' H
      go_upto_region 5 with fail
      go_cut [24] (fun v24 wx => v24 = .bool (decide (oD < oC)) ∧ Aside0 (MtAt (((w.alloc (.cells #[.int .i64 (n : Int), .slice A0_1 l0_1.length c0_1] 24)).alloc (.cells #[.int .i64 (n1 : Int), .slice A1_1 l1_1.length c1_1] 24)).alloc (.cells #[.int .i64 0, .slice none 0 0] 24)) c1 c2 pb C D wx))
      case first =>
        go_region_with (first
          | (go_at_call 79; (refine (order_any (HCD.out.below (below_step HB5.out bel0))).mono ?_); rintro e w6 ⟨rfl, hb6⟩; rw [hoD.out]; have HB6 := Aside0.mk (below_step HB5.out (below_step (w := w5) bel0 hb6)); clear hb6)
          | (go_at_call 79; (refine (order_any (HCC.out.below bel0)).mono ?_); rintro e w5 ⟨rfl, hb5⟩; rw [hoC.out]; have HB5 := Aside0.mk (below_step (w := wc) bel0 hb5); have hcp5 := cell_move (w' := w5) hcp (fun hlt => HB5.out.block _ hlt); clear hb5))
        all_goals
          go_wp2_with fail
          go_meet
          exact ⟨by first | rfl | simp, ⟨HM.out.below HB6.out⟩⟩
      case rest =>
        clear HCC HCD hcp ρC baseC capC laC dC ρD baseD capD laD dD
        obtain ⟨rfl, HM2⟩ := hcut
        have hcp := HM2.out.cell
        have hcf := HM2.out.frozen
        clear HM
        by_cases hsw : oD < oC
        · rw [if_pos hsw] at h
          have HV := Aside0.mk h
          have dsw : decide (oD < oC) = true := decide_eq_true hsw
          rw [dsw]
          clear h hsw dsw
          go_upto_region 7 with fail
          have HM := Aside0.mk HM2.out.turn
          clear HM2 hcp hcf
          have hv := HV.out
          clear HV
          unfold meetV at hv
          obtain ⟨o, ho'⟩ : ∃ o, belowF D 0 = o := ⟨_, rfl⟩
          have ho := Aside0.mk ho'
          rw [ho'] at hv
          clear ho'
          obtain ⟨ρ1, base1, capL1, la1, d1, hch1⟩ := HM.out.ch1
          have HCH1 := Aside0.mk hch1
          clear hch1
          by_cases e9 : 5040 < o
          · rw [if_pos e9] at hv
            obtain ⟨e7, h5⟩ := Prod.mk.inj (Option.some.inj hv)
            obtain ⟨e8, e10⟩ := Prod.mk.inj h5
            subst e7
            subst e8
            subst e10
            have d9 : decide (5040 < o) = true := decide_eq_true e9
            clear hv h5 e9
            go_wp2_with (go_at_call 79; (refine (order_any HCH1.out).mono ?_); rintro e w7 ⟨rfl, hb7⟩; rw [ho.out]; have HM7 := Aside0.mk (HM.out.below hb7); have hk := Aside0.mk ((HM7.out.all.block _ HSZ.out).trans HZ.out); have hc0 := (blk_cell hk.out 0); have hc1 := (blk_cell hk.out 1); have hf0 := (blk_frozen hk.out 0); have hf1 := (blk_frozen hk.out 1); clear hb7)
            have hk2 := blk_put hk.out 0 (.int .i64 0) rfl
            have hk3 := blk_put hk2 1 (.slice none 0 0) rfl
            refine bodyPost_ret (results_ct rfl _ _ (w.heap.size + 1 + 1) 24 #[.int .i64 0, .slice none 0 0] (0, 0) _ rfl hk3 Tryz.underlying24 rfl (by kernel_rfl)) rfl ?_
            exact ⟨_, rfl, Kd.S_nil _ _ _ _ _, ((below_step HB0.out HM7.out.all).setCell (by show w.heap.size ≤ w.heap.size + 1 + 1; omega) _).setCell (by show w.heap.size ≤ w.heap.size + 1 + 1; omega) _⟩
          · rw [if_neg e9] at hv
            have d9 : decide (5040 < o) = false := decide_eq_false e9
            replace hv := Option.bind_eq_some_iff.1 hv
            obtain ⟨all, h2, hv⟩ := hv
            have A2 := Aside0.mk h2
            have hr : 0 < all.length ∧ all.length ≤ 100000 ∧ ∀ p ∈ all, (C.contains p).isSome = true := by
              by_cases hr : 0 < all.length ∧ all.length ≤ 100000 ∧ ∀ p ∈ all, (C.contains p).isSome = true
              · exact hr
              · rw [if_neg hr] at hv; cases hv
            rw [if_pos hr] at hv
            have HALL := Aside0.mk hr
            replace hv := Option.bind_eq_some_iff.1 hv
            obtain ⟨r, h3, hv⟩ := hv
            obtain ⟨e7, h5⟩ := Prod.mk.inj (Option.some.inj hv)
            obtain ⟨e8, e10⟩ := Prod.mk.inj h5
            subst e7
            subst e8
            subst e10
            rw [Int.toNat_natCast] at h3
            have A3 := Aside0.mk h3
            clear hv h5 e9 h2 h3 hr
            go_upto_region 9 with (go_at_call 79; (refine (order_any HCH1.out).mono ?_); rintro e w7 ⟨rfl, hb7⟩; rw [ho.out]; have HM7 := Aside0.mk (HM.out.below hb7); have HCH7 := Aside0.mk (HCH1.out.below hb7); have hx7 := cell_move (w' := w7) HX0.out (fun hlt => HM7.out.all.block _ hlt); clear hb7)
            obtain ⟨ρ2, base2, capL2, la2, d2, hch2⟩ := HM7.out.ch2
            have HCLO : Aside0 (CloMeet w7 pb all (fun p => (C.contains p).getD false)) := ⟨meetClo HM7.out.cell hch2 HALL.out.2.2⟩
            clear hch2
            go_region_held3 (fun w' => w'.cell? ⟨w.heap.size, 0, none⟩ = some (.int .i64 (n : Int))) (first | exact hx7 | exact (World.cell?_setCell_other _ _ _ _ (by simp)).trans ((World.cell?_setCell_other _ _ _ _ (by simp)).trans hx7) | go_keep)
              (first
              | (go_at_call 69; (refine (reducedG_any n HN.out (all.filter fun p => (C.contains p).getD false) r A3_ c3_ w7.heap.size _ (Kd.S_below HS3x.out bel0) (below_step HB9.out bel0).size A3.out).mono ?_); rintro e w10 ⟨v10, rfl, hs10, hb10⟩; have HB910 := below_step (w := w9) bel0 hb10; have HS10 := Aside0.mk hs10; have HB10 := Aside0.mk (below_step HB9.out HB910); have HM10 := Aside0.mk (HM7.out.below HB10.out); replace hx7 := cell_move HX0.out (fun hlt => HM10.out.all.block _ hlt); obtain ⟨A4, c4, e4⟩ := Kd.R_slice (Kd.S_R hs10); subst e4; have hk := Aside0.mk ((HM10.out.all.block _ HSZ.out).trans HZ.out); have hc0 := (blk_cell hk.out 0); have hc1 := (blk_cell hk.out 1); have hf0 := (blk_frozen hk.out 0); have hf1 := (blk_frozen hk.out 1); clear hs10 hb10)
              | (go_at_call 70; (refine (deleteMeet_any HCLO.out (by have := HALL.out; omega) rfl (HD.out.below bel0)).mono ?_); rintro e w9 ⟨v9, rfl, hs9, hb9⟩; have HS3x := Aside0.mk hs9; have HB9 := Aside0.mk hb9; replace hx7 := cell_move HX0.out (fun hlt => (HM7.out.below hb9).all.block _ hlt); obtain ⟨A3_, c3_, e3_⟩ := Kd.R_slice (Kd.S_R hs9); subst e3_; clear hs9 hb9)
              | (go_at_call 80; (refine (elements_any (HCH7.out.below bel0) A2.out).mono ?_); rintro e w8 ⟨v8, rfl, hs8, hb8⟩; have HS8 := Aside0.mk (Kd.S_lower hs8 (show w7.heap.size ≤ _ from by first | exact Nat.le_refl _ | simp)); have HB8 := Aside0.mk (below_step (w := w7) bel0 hb8); replace hx7 := cell_move hx7 (fun hlt => HB8.out.block _ hlt); obtain ⟨bl, cp, e2, _, _, _, _⟩ := Kd.R_form (Kd.S_R HS8.out) HALL.out.1; subst e2; obtain ⟨fD, svs, hD⟩ := DfAt.of_S (w0 := w7) (all := all) (blk := bl) (cap := cp) HB8.out HS8.out; have HD := Aside0.mk hD; clear hs8 hb8 hD))
            all_goals
              go_wp2_with fail
              have hk2 := blk_put hk.out 0 (.int .i64 (n : Int)) rfl
              have hk3 := blk_put hk2 1 (.slice A4 r.length c4) rfl
              have hty : ∀ q, q ∈ 39 :: (Kd.slice 3 (Kd.int .i64)).E → q ≠ 24 := by decide
              have hS2 := Kd.S_set HS10.out hk.out hty 0 (.int .i64 (n : Int))
              have hS3 := Kd.S_set hS2 hk2 hty 1 (.slice A4 r.length c4)
              refine bodyPost_ret (results_ct rfl _ _ (w.heap.size + 1 + 1) 24 #[.int .i64 (n : Int), .slice A4 r.length c4] (0, 0) _ rfl hk3 Tryz.underlying24 rfl (by kernel_rfl)) rfl ?_
              exact ⟨_, rfl, Kd.S_lower hS3 (below_step HB0.out HM7.out.all).size, ((below_step HB0.out HM10.out.all).setCell (by show w.heap.size ≤ w.heap.size + 1 + 1; omega) _).setCell (by show w.heap.size ≤ w.heap.size + 1 + 1; omega) _⟩
        · rw [if_neg hsw] at h
          have HV := Aside0.mk h
          have dsw : decide (oD < oC) = false := decide_eq_false hsw
          rw [dsw]
          clear h hsw dsw
          go_upto_region 7 with fail
          have HM := HM2
          clear HM2 hcp hcf
          have hv := HV.out
          clear HV
          unfold meetV at hv
          obtain ⟨o, ho'⟩ : ∃ o, belowF C 0 = o := ⟨_, rfl⟩
          have ho := Aside0.mk ho'
          rw [ho'] at hv
          clear ho'
          obtain ⟨ρ1, base1, capL1, la1, d1, hch1⟩ := HM.out.ch1
          have HCH1 := Aside0.mk hch1
          clear hch1
          by_cases e9 : 5040 < o
          · rw [if_pos e9] at hv
            obtain ⟨e7, h5⟩ := Prod.mk.inj (Option.some.inj hv)
            obtain ⟨e8, e10⟩ := Prod.mk.inj h5
            subst e7
            subst e8
            subst e10
            have d9 : decide (5040 < o) = true := decide_eq_true e9
            clear hv h5 e9
            go_wp2_with (go_at_call 79; (refine (order_any HCH1.out).mono ?_); rintro e w7 ⟨rfl, hb7⟩; rw [ho.out]; have HM7 := Aside0.mk (HM.out.below hb7); have hk := Aside0.mk ((HM7.out.all.block _ HSZ.out).trans HZ.out); have hc0 := (blk_cell hk.out 0); have hc1 := (blk_cell hk.out 1); have hf0 := (blk_frozen hk.out 0); have hf1 := (blk_frozen hk.out 1); clear hb7)
            have hk2 := blk_put hk.out 0 (.int .i64 0) rfl
            have hk3 := blk_put hk2 1 (.slice none 0 0) rfl
            refine bodyPost_ret (results_ct rfl _ _ (w.heap.size + 1 + 1) 24 #[.int .i64 0, .slice none 0 0] (0, 0) _ rfl hk3 Tryz.underlying24 rfl (by kernel_rfl)) rfl ?_
            exact ⟨_, rfl, Kd.S_nil _ _ _ _ _, ((below_step HB0.out HM7.out.all).setCell (by show w.heap.size ≤ w.heap.size + 1 + 1; omega) _).setCell (by show w.heap.size ≤ w.heap.size + 1 + 1; omega) _⟩
          · rw [if_neg e9] at hv
            have d9 : decide (5040 < o) = false := decide_eq_false e9
            replace hv := Option.bind_eq_some_iff.1 hv
            obtain ⟨all, h2, hv⟩ := hv
            have A2 := Aside0.mk h2
            have hr : 0 < all.length ∧ all.length ≤ 100000 ∧ ∀ p ∈ all, (D.contains p).isSome = true := by
              by_cases hr : 0 < all.length ∧ all.length ≤ 100000 ∧ ∀ p ∈ all, (D.contains p).isSome = true
              · exact hr
              · rw [if_neg hr] at hv; cases hv
            rw [if_pos hr] at hv
            have HALL := Aside0.mk hr
            replace hv := Option.bind_eq_some_iff.1 hv
            obtain ⟨r, h3, hv⟩ := hv
            obtain ⟨e7, h5⟩ := Prod.mk.inj (Option.some.inj hv)
            obtain ⟨e8, e10⟩ := Prod.mk.inj h5
            subst e7
            subst e8
            subst e10
            rw [Int.toNat_natCast] at h3
            have A3 := Aside0.mk h3
            clear hv h5 e9 h2 h3 hr
            go_upto_region 9 with (go_at_call 79; (refine (order_any HCH1.out).mono ?_); rintro e w7 ⟨rfl, hb7⟩; rw [ho.out]; have HM7 := Aside0.mk (HM.out.below hb7); have HCH7 := Aside0.mk (HCH1.out.below hb7); have hx7 := cell_move (w' := w7) HX0.out (fun hlt => HM7.out.all.block _ hlt); clear hb7)
            obtain ⟨ρ2, base2, capL2, la2, d2, hch2⟩ := HM7.out.ch2
            have HCLO : Aside0 (CloMeet w7 pb all (fun p => (D.contains p).getD false)) := ⟨meetClo HM7.out.cell hch2 HALL.out.2.2⟩
            clear hch2
            go_region_held3 (fun w' => w'.cell? ⟨w.heap.size, 0, none⟩ = some (.int .i64 (n : Int))) (first | exact hx7 | exact (World.cell?_setCell_other _ _ _ _ (by simp)).trans ((World.cell?_setCell_other _ _ _ _ (by simp)).trans hx7) | go_keep)
              (first
              | (go_at_call 69; (refine (reducedG_any n HN.out (all.filter fun p => (D.contains p).getD false) r A3_ c3_ w7.heap.size _ (Kd.S_below HS3x.out bel0) (below_step HB9.out bel0).size A3.out).mono ?_); rintro e w10 ⟨v10, rfl, hs10, hb10⟩; have HB910 := below_step (w := w9) bel0 hb10; have HS10 := Aside0.mk hs10; have HB10 := Aside0.mk (below_step HB9.out HB910); have HM10 := Aside0.mk (HM7.out.below HB10.out); replace hx7 := cell_move HX0.out (fun hlt => HM10.out.all.block _ hlt); obtain ⟨A4, c4, e4⟩ := Kd.R_slice (Kd.S_R hs10); subst e4; have hk := Aside0.mk ((HM10.out.all.block _ HSZ.out).trans HZ.out); have hc0 := (blk_cell hk.out 0); have hc1 := (blk_cell hk.out 1); have hf0 := (blk_frozen hk.out 0); have hf1 := (blk_frozen hk.out 1); clear hs10 hb10)
              | (go_at_call 70; (refine (deleteMeet_any HCLO.out (by have := HALL.out; omega) rfl (HD.out.below bel0)).mono ?_); rintro e w9 ⟨v9, rfl, hs9, hb9⟩; have HS3x := Aside0.mk hs9; have HB9 := Aside0.mk hb9; replace hx7 := cell_move HX0.out (fun hlt => (HM7.out.below hb9).all.block _ hlt); obtain ⟨A3_, c3_, e3_⟩ := Kd.R_slice (Kd.S_R hs9); subst e3_; clear hs9 hb9)
              | (go_at_call 80; (refine (elements_any (HCH7.out.below bel0) A2.out).mono ?_); rintro e w8 ⟨v8, rfl, hs8, hb8⟩; have HS8 := Aside0.mk (Kd.S_lower hs8 (show w7.heap.size ≤ _ from by first | exact Nat.le_refl _ | simp)); have HB8 := Aside0.mk (below_step (w := w7) bel0 hb8); replace hx7 := cell_move hx7 (fun hlt => HB8.out.block _ hlt); obtain ⟨bl, cp, e2, _, _, _, _⟩ := Kd.R_form (Kd.S_R HS8.out) HALL.out.1; subst e2; obtain ⟨fD, svs, hD⟩ := DfAt.of_S (w0 := w7) (all := all) (blk := bl) (cap := cp) HB8.out HS8.out; have HD := Aside0.mk hD; clear hs8 hb8 hD))
            all_goals
              go_wp2_with fail
              have hk2 := blk_put hk.out 0 (.int .i64 (n : Int)) rfl
              have hk3 := blk_put hk2 1 (.slice A4 r.length c4) rfl
              have hty : ∀ q, q ∈ 39 :: (Kd.slice 3 (Kd.int .i64)).E → q ≠ 24 := by decide
              have hS2 := Kd.S_set HS10.out hk.out hty 0 (.int .i64 (n : Int))
              have hS3 := Kd.S_set hS2 hk2 hty 1 (.slice A4 r.length c4)
              refine bodyPost_ret (results_ct rfl _ _ (w.heap.size + 1 + 1) 24 #[.int .i64 (n : Int), .slice A4 r.length c4] (0, 0) _ rfl hk3 Tryz.underlying24 rfl (by kernel_rfl)) rfl ?_
              exact ⟨_, rfl, Kd.S_lower hS3 (below_step HB0.out HM7.out.all).size, ((below_step HB0.out HM10.out.all).setCell (by show w.heap.size ≤ w.heap.size + 1 + 1; omega) _).setCell (by show w.heap.size ≤ w.heap.size + 1 + 1; omega) _⟩
  · rw [if_neg e0] at h
    obtain ⟨rfl, h3⟩ := Prod.mk.inj (Option.some.inj h)
    obtain ⟨rfl, rfl⟩ := Prod.mk.inj h3
    have e1 : (e == 0) = false := beq_eq_false_iff_ne.mpr e0
    have e2 : (e != 0) = true := bne_iff_ne.mpr e0
    clear h e0 h3
    go_enter Tryz.func31, Tryz.ntmps31
    go_wp2_with (go_at_call 74; (refine (permgroup_two.calls k a0_0 A0_1 c0_1 l0_1 a1_0 A1_1 c1_1 l1_1 e _ HG.out HC.out HG2.out HC2.out A1'.out).mono ?_); rintro e' w1 ⟨rfl, hb1⟩; have HB1 := Aside0.mk (below_step HB0.out hb1); have hk := Aside0.mk ((hb1.block _ HSZ.out).trans HZ.out); have hc0 := (blk_cell hk.out 0); have hc1 := (blk_cell hk.out 1); have hf0 := (blk_frozen hk.out 0); have hf1 := (blk_frozen hk.out 1); clear hb1)
    have hk2 := blk_put hk.out 0 (.int .i64 0) rfl
    have hk3 := blk_put hk2 1 (.slice none 0 0) rfl
    refine bodyPost_ret (results_ct rfl _ _ (w.heap.size + 1 + 1) 24 #[.int .i64 0, .slice none 0 0] (0, 0) _ rfl hk3 Tryz.underlying24 rfl (by kernel_rfl)) rfl ?_
    exact ⟨_, rfl, Kd.S_nil _ _ _ _ _, (HB1.out.setCell (by show w.heap.size ≤ w.heap.size + 1 + 1; omega) _).setCell (by show w.heap.size ≤ w.heap.size + 1 + 1; omega) _⟩
end Go.Proofs.YtmbldnoepjmhhaaGreat.Bs
