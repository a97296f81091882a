/- PermgroupChains: the law, its walk by values joined with the laws of chains. -/
import Derived.Test.YtmbldnoepjmhhaaZPermgroupChainsLwChains1
import Derived.Test.YtmbldnoepjmhhaaZPermgroupChainsLwChains2
import Derived.Test.YtmbldnoepjmhhaaZPermgroupChainsLwChains3
import Derived.Test.YtmbldnoepjmhhaaZPermgroupChainsMg0
import Derived.Test.YtmbldnoepjmhhaaZPermgroupChainsMg4
import Derived.Test.YtmbldnoepjmhhaaZPermgroupChainsMg1
import Derived.Test.YtmbldnoepjmhhaaZPermgroupChainsMg3
namespace Go.Proofs.Ytmbldnoepjmhhaa.Bs
set_option linter.unusedVariables false
set_option linter.unusedSimpArgs false
open Go.RowKit Go.Proofs.YtmbldnoepjmhhaaW.PrintWords Go.Proofs.YtmbldnoepjmhhaaW.PrintLast Go.Proofs.YtmbldnoepjmhhaaW.PrintMore Go.Proofs.Ytmbldnoepjmhhaa.Plain Go.Proofs.Ytmbldnoepjmhhaa.PBs Go.Proofs.Ytmbldnoepjmhhaa.PAll Go.Proofs.Ytmbldnoepjmhhaa.Pms Go.Proofs.Ytmbldnoepjmhhaa.QGr Go.Proofs.Ytmbldnoepjmhhaa.QCl
variable {n : Nat}
attribute [local instance] Classical.propDecidable
theorem mod_atC (i : Int) (m : Nat) (hi : 0 ≤ i) (hm : 0 < m) : i.tmod (m : Int) = ((i.toNat % m : Nat) : Int) := by
  obtain ⟨k, rfl⟩ : ∃ k : Nat, i = (k : Int) := ⟨i.toNat, by omega⟩
  rw [Int.toNat_natCast]
  exact Int.ofNat_tmod k m
theorem order_valC (hn : n ≤ 20) (S : List (Pm n)) (hS : S.length ≤ 32) {E : List (Pm n)} (hE : E.Pairwise Lt) (hG : ∀ p, p ∈ E ↔ Gen S p) : Ev (fun k => permgroup_Order.f k (n : Int) (S.map Pm.l)) ((E.length : Int), 0) := by
  obtain ⟨E', h1, h2, h3⟩ := permgroup_Order.ev hn S hS
  have : E' = E := sorted_eq h1 hE (fun p => by rw [h2, hG])
  rw [← this]; exact h3
theorem lvs_mem {A : AC n} : ∀ (d k : Nat) (q : S71), n - k = d → q ∈ lvs A d k → ∃ j, k ≤ j ∧ j < n ∧ q = lvAt A j ∧ 2 ≤ (A.O j).length
  | 0, k, q, hd, h => by cases h
  | d + 1, k, q, hd, h => by
    rw [lvs] at h
    by_cases hl : (A.O k).length < 2
    · rw [if_pos hl] at h
      obtain ⟨j, a, b, c⟩ := lvs_mem d (k + 1) q (by omega) h
      exact ⟨j, by omega, b, c⟩
    · rw [if_neg hl] at h
      rcases List.mem_cons.1 h with h | h
      · exact ⟨k, Nat.le_refl _, by omega, h, by omega⟩
      · obtain ⟨j, a, b, c⟩ := lvs_mem d (k + 1) q (by omega) h
        exact ⟨j, by omega, b, c⟩
theorem lvs_sorted {A : AC n} : ∀ (d k : Nat), n - k = d → (lvs A d k).Pairwise (fun a b => a.f0 < b.f0)
  | 0, k, hd => List.Pairwise.nil
  | d + 1, k, hd => by
    rw [lvs]
    by_cases hl : (A.O k).length < 2
    · rw [if_pos hl]; exact lvs_sorted d (k + 1) (by omega)
    · rw [if_neg hl]
      refine List.pairwise_cons.2 ⟨fun q hq => ?_, lvs_sorted d (k + 1) (by omega)⟩
      obtain ⟨j, a, b, c, _⟩ := lvs_mem d (k + 1) q (by omega) hq
      rw [c]
      show (k : Int) < (j : Int)
      omega
def prodL (l : List S71) : Nat := l.foldr (fun q a => q.f1.length * a) 1
theorem prodL_append : ∀ (a b : List S71), prodL (a ++ b) = prodL a * prodL b
  | [], b => by simp [prodL]
  | q :: r, b => by
    show q.f1.length * prodL (r ++ b) = q.f1.length * prodL r * prodL b
    rw [prodL_append r b, Nat.mul_assoc]
theorem lvAt_len (A : AC n) (j : Nat) : (lvAt A j).f1.length = (A.O j).length := by
  unfold lvAt ints
  rw [List.length_map]
  exact (sortO_perm A j 1).length_eq
theorem lvs_prod {A : AC n} (h : Inv A) : ∀ (d k : Nat), n - k = d → prodL (lvs A d k) = Bs.ordN A d k
  | 0, k, hd => rfl
  | d + 1, k, hd => by
    rw [lvs, Bs.ordN]
    by_cases hl : (A.O k).length < 2
    · rw [if_pos hl, lvs_prod h d (k + 1) (by omega)]
      have := orb_pos h (k := k) (by omega)
      rw [show (A.O k).length = 1 by omega, Nat.one_mul]
    · rw [if_neg hl]
      show (lvAt A k).f1.length * prodL (lvs A d (k + 1)) = _
      rw [lvs_prod h d (k + 1) (by omega), lvAt_len]
theorem lvs_len {A : AC n} : ∀ (d k : Nat), (lvs A d k).length ≤ d
  | 0, k => Nat.le_refl _
  | d + 1, k => by
    rw [lvs]
    by_cases hl : (A.O k).length < 2
    · rw [if_pos hl]; exact Nat.le_succ_of_le (lvs_len d (k + 1))
    · rw [if_neg hl]; exact Nat.succ_le_succ (lvs_len d (k + 1))
theorem in_G {A : AC n} {G : Pm n → Prop} (h : Bs.Good A G) {k : Nat} (hk : k ≤ n) {p : Pm n} (hp : In A k p) : G p := by
  have h1 := (In.iff_gen h.inv (n - k) k rfl (cmp_all h.cmp k) p).1 hp
  exact ((stab_gen h hk p).1 ((lowS_gen h.inv k p).2 h1)).1
theorem chk_Pm (hn : n ≤ 20) (p : Pm n) : chk p.l = 0 := by
  have h := chkE_Pm hn p
  unfold chkE at h
  by_cases e : chk p.l = 0
  · exact e
  · rw [if_neg e] at h; exact absurd h e
theorem lift_at {A : AC n} (hn : n ≤ 20) (S : List (Pm n)) (hS : S.length ≤ 32) (h : Bs.Good A (Gen S)) {j : Nat} (hj : j < n) (k : Nat) (hk : k < (lvAt A j).f1.length) : LiftF n j (S.map Pm.l) (lvAt A j).f1 (lvAt A j).f2 k := by
  have hk' : k < (sortO A j 1).length := by rw [lvAt_len] at hk; rw [(sortO_perm A j 1).length_eq]; exact hk
  obtain ⟨y, hy⟩ : ∃ y, (sortO A j 1)[k] = y := ⟨_, rfl⟩
  have hym : y ∈ A.O j := (sortO_perm A j 1).mem_iff.1 (hy ▸ List.getElem_mem hk')
  have hyn : y < n := orb_lt h.inv hj hym
  obtain ⟨t, ht⟩ : ∃ t, A.T j y = some t := Option.ne_none_iff_exists'.1 ((h.inv.orb j y hj).1 hym)
  have htt : tt A j y = t := by unfold tt; rw [ht]; rfl
  obtain ⟨_, _, t3, t4, _⟩ := h.inv.word j y t ht
  obtain ⟨g, hg, hge⟩ := lst_mem hn h.inv (k := j + 1) (by omega) t
  have hgf : Fix (j + 1) g := In.fix h.inv (n - (j + 1)) (j + 1) g rfl hg
  have hgj : g.ap j = j := hgf j (Nat.lt_succ_self j) hj
  have e1 : (g * t).ap j = y := by rw [Pm.mul_ap _ _ hj, hgj, t3]
  have e2 : ∀ i, i < j → (g * t).ap i = i := fun i hi => by rw [Pm.mul_ap _ _ (by omega), hgf i (by omega) (by omega), t4 i hi (by omega)]
  have hin : In A j (g * t) := (In.step hj).2 ⟨t, by rw [e1]; exact ht, by rw [Pm.mul_inv_r]; exact hg⟩
  have hG : Gen S (g * t) := in_G h (by omega) hin
  obtain ⟨K1, h1⟩ := QRf.galoisref22_Check.ev (g * t).l
  obtain ⟨K2, h2⟩ := permgroup_Contains.ev hn S hS (g * t)
  rw [chk_Pm hn] at h1
  rw [decide_eq_true hG] at h2
  refine ⟨(g * t).l, (y : Int), ?_, ?_, (g * t).len, hn, hj, ?_, fun i hi => ?_, fun i hi => ?_, ⟨K1, h1 K1 (Nat.le_refl _)⟩, K2, h2 K2 (Nat.le_refl _)⟩
  · show ((sortO A j 1).map fun y => (lst A (j + 1) (tt A j y)).l)[k]? = _
    rw [List.getElem?_map, List.getElem?_eq_getElem hk', hy, Option.map_some, htt, hge]
  · show (ints (sortO A j 1))[k]? = _
    unfold ints
    rw [List.getElem?_map, List.getElem?_eq_getElem hk', hy, Option.map_some]
  · rw [rd_ap _ hj, e1]
  · rw [rd_ap _ (by omega), e2 i hi]
  · subst hi
    have hi' : i < (sortO A j 1).length := by omega
    refine ⟨(((sortO A j 1)[i] : Nat) : Int), ?_, ?_⟩
    · show (ints (sortO A j 1))[i]? = _
      unfold ints
      rw [List.getElem?_map, List.getElem?_eq_getElem hi', Option.map_some]
    · have hs := List.pairwise_iff_getElem.1 (sortO_sorted A j 1) i (i + 1) hi' hk' (Nat.lt_succ_self i)
      have hnd : (sortO A j 1).Nodup := (sortO_perm A j 1).nodup_iff.2 (h.inv.nodup j hj)
      have hin' : (sortO A j 1)[i] < n := orb_lt h.inv hj ((sortO_perm A j 1).mem_iff.1 (List.getElem_mem hi'))
      rw [hy, Pm.one_ap hin', Pm.one_ap hyn] at hs
      have hne : (sortO A j 1)[i] ≠ y := fun e => by
        have h1 := hnd.idxOf_getElem i hi'
        have h2 := hnd.idxOf_getElem (i + 1) hk'
        rw [e] at h1
        rw [hy] at h2
        omega
      omega
def prodP (S : List (Pm n)) (lw : List Int) : Nat → Pm n
  | 0 => 1
  | i + 1 => prodP S lw i * (S[(lw.getD i 0).toNat % S.length]?).getD 1
theorem prodP_gen (S : List (Pm n)) (lw : List Int) : ∀ i, Gen S (prodP S lw i)
  | 0 => Gen.one S
  | i + 1 => by
    rw [prodP]
    refine (prodP_gen S lw i).mul ?_
    cases hx : S[(lw.getD i 0).toNat % S.length]? with
    | none => exact Gen.one S
    | some x => exact Gen.of (List.mem_of_getElem? hx)
def lastL (cl : List S71) : Nat → Int
  | 0 => -1
  | i + 1 => (cl[i]?).elim 0 (fun q => q.f0)
theorem chains_law (a : Int) (A0_1 : Option Addr) (c0_1 : Nat) (L : List (List Int)) (A1 : Option Addr) (c1 : Nat) (lw : List Int) (A2 : Option Addr) (c2 : Nat) (lp : List Int) (w : World) (hr0_1 : Kd.C (Kd.slice 3 (Kd.int .i64)) w A0_1 L.length L) (hc0_1 : L.length ≤ c0_1) (hr1 : Kd.C (Kd.int .u8) w A1 lw.length lw) (hc1 : lw.length ≤ c1) (hr2 : Kd.C (Kd.int .i64) w A2 lp.length lp) (hc2 : lp.length ≤ c2) (hwb : ∀ b ∈ lw, 0 ≤ b ∧ b ≤ 255) :
    Calls Try.prog 6 #[.agg #[.int .i64 a, .slice A0_1 L.length c0_1], .slice A1 lw.length c1, .slice A2 lp.length c2] w fun e w' => e = .returned (.bool true) ∧ Below w.heap.size w w' := by
  obtain ⟨b, K1, hb⟩ := QRf.galoisref23_Few.ev a L
  have h1 := hb K1 (Nat.le_refl _)
  obtain ⟨K2, hc⟩ := QRf.galoisref23_Check.ev a L
  have h2 := hc K2 (Nat.le_refl _)
  cases b with
  | false => exact chains_few a A0_1 c0_1 L A1 c1 lw A2 c2 lp w hr0_1 hc0_1 hr1 hc1 hr2 hc2 K1 h1
  | true =>
  by_cases h0 : chkG a L = 0
  · rw [h0] at h2
    by_cases hd : 12 < a
    · exact chains_deg a A0_1 c0_1 L A1 c1 lw A2 c2 lp w hr0_1 hc0_1 hr1 hc1 hr2 hc2 K1 h1 K2 h2 hd
    by_cases hl : 6 < L.length
    · exact chains_len a A0_1 c0_1 L A1 c1 lw A2 c2 lp w hr0_1 hc0_1 hr1 hc1 hr2 hc2 K1 h1 K2 h2 (by omega) hl
    by_cases hw : 40 < lw.length
    · exact chains_word a A0_1 c0_1 L A1 c1 lw A2 c2 lp w hr0_1 hc0_1 hr1 hc1 hr2 hc2 K1 h1 K2 h2 (by omega) (by omega) hw
    by_cases hp : 40 < lp.length
    · exact chains_perm a A0_1 c0_1 L A1 c1 lw A2 c2 lp w hr0_1 hc0_1 hr1 hc1 hr2 hc2 K1 h1 K2 h2 (by omega) (by omega) (by omega) hp
    obtain ⟨n, S, rfl, hn, rfl, hS⟩ := chkG_to h0
    rw [List.length_map] at hS
    obtain ⟨A, hA, K3, hch⟩ := permgroup_Chain.ev hn S hS
    obtain ⟨E, hE, hG, _, _⟩ := elements_spec hn hA
    obtain ⟨K4, ho⟩ := order_valC hn S hS hE hG
    have hEl : E = El A n 0 1 := (el_all hA hE hG).symm
    have hEn : E.length = Bs.ordN A n 0 := by rw [hEl]; exact El.len hA.inv n 0 1 rfl (Nat.zero_le _)
    have hEp : 0 < E.length := List.length_pos_of_mem ((hG 1).2 (Gen.one _))
    have hEb : E.length ≤ 2432902008176640000 := by rw [hEn]; exact Nat.le_trans (ordN_le hA.inv n 0 rfl) (fact_small hn)
    have hlvn := lvs_len (A := A) n 0
    obtain ⟨cl, hcl⟩ : ∃ cl, lvs A n 0 = cl := ⟨_, rfl⟩
    have hprodl : prodL cl = E.length := by rw [← hcl, lvs_prod hA.inv n 0 rfl, hEn]
    have hmem : ∀ q ∈ cl, ∃ j, j < n ∧ q = lvAt A j ∧ 2 ≤ (A.O j).length := fun q hq => by
      rw [← hcl] at hq
      obtain ⟨j, _, x, y⟩ := lvs_mem n 0 q rfl hq
      exact ⟨j, x, y⟩
    have hsrt : cl.Pairwise (fun a b => a.f0 < b.f0) := by rw [← hcl]; exact lvs_sorted n 0 rfl
    rw [hcl] at hch hlvn
    obtain ⟨K5, hid⟩ := identP hn
    obtain ⟨K6, hct⟩ := permgroup_Contains.ev hn S hS (prodP S lw (if 0 < (S.map Pm.l).length then lw.length else 0))
    rw [decide_eq_true (prodP_gen S lw _)] at hct
    obtain ⟨K7, hck⟩ := QRf.galoisref22_Check.ev lp
    have hpp : ∀ i, prodL (cl.take i) ≤ E.length := fun i => by
      rw [← hprodl]
      have e : prodL cl = prodL (cl.take i) * prodL (cl.drop i) := by rw [← prodL_append, List.take_append_drop]
      rw [e]
      refine Nat.le_mul_of_pos_right _ (Nat.pos_of_ne_zero fun h => ?_)
      rw [h, Nat.mul_zero] at e
      omega
    have hlev : ∀ (i : Nat) (q : S71), cl[i]? = some q → lastL cl i < q.f0 ∧ lastL cl (i + 1) = q.f0 ∧ 2 ≤ q.f1.length ∧ q.f1.length ≤ 1000 ∧ q.f2.length = q.f1.length ∧ wrap64 (((prodL (cl.take i) : Nat) : Int) * (q.f1.length : Int)) = ((prodL (cl.take (i + 1)) : Nat) : Int) ∧ ∃ pt : Nat, q.f0 = (pt : Int) ∧ ∀ k, k < q.f1.length → LiftF n pt (S.map Pm.l) q.f1 q.f2 k := by
      intro i q hq
      obtain ⟨j, hj, rfl, hj2⟩ := hmem q (List.mem_of_getElem? hq)
      have hil := (List.getElem?_eq_some_iff.1 hq).1
      have hiq := (List.getElem?_eq_some_iff.1 hq).2
      have hlen := lvAt_len A j
      have hol : (A.O j).length ≤ n := orb_len hA.inv hj
      have hstep : prodL (cl.take (i + 1)) = prodL (cl.take i) * (lvAt A j).f1.length := by
        rw [List.take_succ_eq_append_getElem hil, prodL_append, hiq]
        show _ * ((lvAt A j).f1.length * 1) = _
        rw [Nat.mul_one]
      refine ⟨?_, ?_, by rw [hlen]; exact hj2, by rw [hlen]; omega, ?_, ?_, j, rfl, fun k hk => lift_at hn S hS hA hj k hk⟩
      · cases i with
        | zero => show (-1 : Int) < (j : Int); omega
        | succ i =>
          show (cl[i]?).elim 0 (fun q => q.f0) < _
          rw [List.getElem?_eq_getElem (by omega)]
          have := List.pairwise_iff_getElem.1 hsrt i (i + 1) (by omega) hil (Nat.lt_succ_self i)
          rw [hiq] at this
          exact this
      · show (cl[i]?).elim 0 (fun q => q.f0) = _
        rw [hq]; rfl
      · show ((sortO A j 1).map fun y => (lst A (j + 1) (tt A j y)).l).length = (ints (sortO A j 1)).length
        unfold ints
        rw [List.length_map, List.length_map]
      · have hb := hpp (i + 1)
        rw [hstep] at hb
        show wrap64 (((prodL (cl.take i) : Nat) : Int) * (((lvAt A j).f1.length : Nat) : Int)) = ((prodL (cl.take (i + 1)) : Nat) : Int)
        rw [hstep, ← Int.natCast_mul]
        exact IntWalk.wrap64_in _ ⟨by omega, by omega⟩
    have hprod : ∀ (i : Nat) (b : Int), lw[i]? = some b → 0 < (S.map Pm.l).length → 0 ≤ b ∧ ∃ (j : Nat) (x : List Int) (K : Nat), b.tmod ((S.map Pm.l).length : Int) = (j : Int) ∧ (S.map Pm.l)[j]? = some x ∧ PRf.galoisref22_Mul.f K (prodP S lw i).l x = some (prodP S lw (i + 1)).l := by
      intro i b hb h0l
      rw [List.length_map] at h0l
      have hbm := hwb b (List.mem_of_getElem? hb)
      have hmod : b.toNat % S.length < S.length := Nat.mod_lt _ h0l
      obtain ⟨K, hm⟩ := mulP hn (prodP S lw i) S[b.toNat % S.length]
      refine ⟨hbm.1, b.toNat % S.length, S[b.toNat % S.length].l, K, by rw [List.length_map]; exact mod_atC b S.length hbm.1 h0l, by rw [List.getElem?_map, List.getElem?_eq_getElem hmod]; rfl, ?_⟩
      have e : prodP S lw (i + 1) = prodP S lw i * S[b.toNat % S.length] := by
        rw [prodP, List.getD_eq_getElem?_getD, hb, Option.getD_some, List.getElem?_eq_getElem hmod, Option.getD_some]
      show _ = some (prodP S lw (i + 1)).l
      rw [e]
      exact hm K (Nat.le_refl _)
    have hoN : (((prodL (cl.take cl.length) : Nat)) : Int) = (E.length : Int) := by rw [List.take_length, hprodl]
    have hck' := hck K7 (Nat.le_refl _)
    by_cases hc0 : chk lp = 0
    · rw [hc0] at hck'
      by_cases hln : lp.length = n
      · skip
        have hce : chkE (n : Int) lp = 0 := by unfold chkE; rw [if_pos hc0, if_pos (by omega)]
        obtain ⟨p, rfl⟩ := chkE_to hce
        obtain ⟨K8, hc8⟩ := permgroup_Contains.ev hn S hS p
        have hS2 : (S ++ [p]).length ≤ 32 := by rw [List.length_append, List.length_singleton]; simp at hl; omega
        obtain ⟨F, hF, hFG⟩ := all_exists hn (S ++ [p])
        obtain ⟨K10, ho2⟩ := order_valC hn (S ++ [p]) hS2 hF hFG
        obtain ⟨K9, htw⟩ := QBs.permgroup_two.ev (n : Int) (S.map Pm.l) (n : Int) [p.l]
        have hg1 : chkG (n : Int) [p.l] = 0 := chkG_Pm hn [p] (by simp)
        rw [if_pos h0, if_pos hg1, if_pos rfl] at htw
        have hdv : E.length ∣ F.length := gen_dvd (sorted_nodup hE) (sorted_nodup hF) hG hFG (fun g hg => Gen.of (List.mem_append_left _ hg))
        have hiff : Gen S p ↔ F.length = E.length := by
          constructor
          · intro hgp
            have : F = E := sorted_eq hF hE (fun x => by rw [hFG, hG, Gen.append_same hgp])
            rw [this]
          · intro hle
            exact gen_eq_of_len (sorted_nodup hE) (sorted_nodup hF) hG hFG (fun g hg => Gen.of (List.mem_append_left _ hg)) hle p (Gen.of (List.mem_append_right _ (List.mem_singleton.2 rfl)))
        have hdec : decide (Gen S p) = (((F.length : Int)) == (E.length : Int)) := by
          rw [Bool.eq_iff_iff, decide_eq_true_iff, beq_iff_eq, hiff]
          omega
        have h8 := hc8 K8 (Nat.le_refl _)
        rw [hdec] at h8
        have hlen3 : p.l.length = n := p.len
        refine chains_all3 n A0_1 c0_1 _ A1 c1 lw A2 c2 p.l w hr0_1 hc0_1 hr1 hc1 hr2 hc2 (by omega) (by omega) (by omega) (by omega) K1 K2 K3 K4 cl (E.length : Int) h1 h2 (hch K3 (Nat.le_refl _)) (ho K4 (Nat.le_refl _)) (by omega) (fun i => ((prodL (cl.take i) : Nat) : Int)) (lastL cl) rfl rfl (by omega) hlev hoN (fun i => (prodP S lw i).l) K5 (hid K5 (Nat.le_refl _)) (fun b hb => (hwb b hb).2) hprod K6 (hct K6 (Nat.le_refl _)) K7 hck' hlen3 K8 K9 K10 ((S ++ [p]).map Pm.l) (F.length : Int) h8 ?_ (ho2 K10 (Nat.le_refl _)) ?_
        · have hbx : ∀ x, x ∈ S.map Pm.l ++ [p.l] → x.length ≤ 1000 := by
            intro x hx
            rcases List.mem_append.1 hx with hx | hx
            · obtain ⟨y, _, rfl⟩ := List.mem_map.1 hx
              rw [y.len]; omega
            · rw [List.mem_singleton] at hx; subst hx; rw [p.len]; omega
          unfold permgroup_Join.f
          rw [show permgroup_two.f K9 (n : Int) (S.map Pm.l) (n : Int) [p.l] = _ from htw K9 (Nat.le_refl _), Option.bind_some, if_pos rfl, if_pos ⟨by rw [List.length_map]; omega, by simp, hbx⟩, if_neg (by rw [List.length_map]; simp at hl ⊢; omega), List.map_append]
          rfl
        · obtain ⟨c, hc⟩ := hdv
          rw [hc, Int.natCast_mul, Int.mul_tmod_right]
      · exact chains_all2 n A0_1 c0_1 _ A1 c1 lw A2 c2 lp w hr0_1 hc0_1 hr1 hc1 hr2 hc2 (by omega) (by omega) (by omega) (by omega) K1 K2 K3 K4 cl (E.length : Int) h1 h2 (hch K3 (Nat.le_refl _)) (ho K4 (Nat.le_refl _)) (by omega) (fun i => ((prodL (cl.take i) : Nat) : Int)) (lastL cl) rfl rfl (by omega) hlev hoN (fun i => (prodP S lw i).l) K5 (hid K5 (Nat.le_refl _)) (fun b hb => (hwb b hb).2) hprod K6 (hct K6 (Nat.le_refl _)) K7 hck' hln
    · exact chains_all1 n A0_1 c0_1 _ A1 c1 lw A2 c2 lp w hr0_1 hc0_1 hr1 hc1 hr2 hc2 (by omega) (by omega) (by omega) (by omega) K1 K2 K3 K4 cl (E.length : Int) h1 h2 (hch K3 (Nat.le_refl _)) (ho K4 (Nat.le_refl _)) (by omega) (fun i => ((prodL (cl.take i) : Nat) : Int)) (lastL cl) rfl rfl (by omega) hlev hoN (fun i => (prodP S lw i).l) K5 (hid K5 (Nat.le_refl _)) (fun b hb => (hwb b hb).2) hprod K6 (hct K6 (Nat.le_refl _)) K7 _ hck' hc0
  · exact chains_chk a A0_1 c0_1 L A1 c1 lw A2 c2 lp w hr0_1 hc0_1 hr1 hc1 hr2 hc2 K1 h1 _ h0 K2 h2
def galoislaw23_PermgroupChains.f (k : Nat) (a0_0 : Int) (l0_1 : List (List Int)) (l1 : List Int) (l2 : List Int) : Option Bool := if ∀ b ∈ l1, 0 ≤ b ∧ b ≤ 255 then some true else none
theorem galoislaw23_PermgroupChains.mono : ∀ a0_0 l0_1 l1 l2 k, LeO (galoislaw23_PermgroupChains.f k a0_0 l0_1 l1 l2) (galoislaw23_PermgroupChains.f (k + 1) a0_0 l0_1 l1 l2) := fun _ _ _ _ _ => LeO.refl _
theorem galoislaw23_PermgroupChains.calls (k : Nat) (a0_0 : Int) (A0_1 : Option Addr) (c0_1 : Nat) (l0_1 : List (List Int)) (A1 : Option Addr) (c1 : Nat) (l1 : List Int) (A2 : Option Addr) (c2 : Nat) (l2 : List Int) (r : Bool) (w : World) (hr0_1 : Kd.C (Kd.slice 3 (Kd.int .i64)) w A0_1 l0_1.length l0_1) (hc0_1 : l0_1.length ≤ c0_1) (hr1 : Kd.C (Kd.int .u8) w A1 l1.length l1) (hc1 : l1.length ≤ c1) (hr2 : Kd.C (Kd.int .i64) w A2 l2.length l2) (hc2 : l2.length ≤ c2) (h : galoislaw23_PermgroupChains.f k a0_0 l0_1 l1 l2 = some r) :
    Calls Try.prog 6 #[.agg #[.int .i64 a0_0, .slice A0_1 l0_1.length c0_1], .slice A1 l1.length c1, .slice A2 l2.length c2] w fun e w' => e = .returned (.bool r) ∧ Below w.heap.size w w' := by
  unfold galoislaw23_PermgroupChains.f at h
  by_cases hh : ∀ b ∈ l1, 0 ≤ b ∧ b ≤ 255
  · rw [if_pos hh] at h
    obtain rfl := Option.some.inj h
    exact chains_law a0_0 A0_1 c0_1 l0_1 A1 c1 l1 A2 c2 l2 w hr0_1 hc0_1 hr1 hc1 hr2 hc2 hh
  · rw [if_neg hh] at h; cases h
end Go.Proofs.Ytmbldnoepjmhhaa.Bs
