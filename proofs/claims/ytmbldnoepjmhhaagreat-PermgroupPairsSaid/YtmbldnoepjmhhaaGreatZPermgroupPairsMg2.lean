/- Texts of this claim put together (wip/tools/merge.py). -/
import Derived.Test.YtmbldnoepjmhhaaGreatZPermgroupPairsMg0
import Derived.Test.YtmbldnoepjmhhaaGreatZPermgroupPairsMg1
import Derived.Lib.SliceRun
set_option linter.unusedVariables false
set_option linter.unusedSimpArgs false
section
/- A row of perms out of which some are deleted in place: its values, and the perms that they tell. -/
namespace Go.Proofs.YtmbldnoepjmhhaaGreat.Bs
open Go.RowKit Go.Proofs.YtmbldnoepjmhhaaGreatW.PrintWords Go.Proofs.YtmbldnoepjmhhaaGreatW.PrintLast Go.Proofs.YtmbldnoepjmhhaaGreatW.PrintMore Go.Proofs.YtmbldnoepjmhhaaGreat.Plain Go.Proofs.YtmbldnoepjmhhaaGreat.PBs
def outIx (kp : List Int → Bool) : Nat → List (List Int) → Int
  | _, [] => -1
  | i, p :: r => if kp p = true then outIx kp (i + 1) r else (i : Int)
structure DfAt (w0 : World) (blk n cap : Nat) (f : Nat → Nat) (svs cur : List Sv) (all : List (List Int)) (w : World) : Prop where
  bel : Below w0.heap.size w0 w
  row : Kd.R kv 39 w w0.heap.size (fun b => b = blk) (.slice (some ⟨blk, 0, none⟩) n cap) cur
  len : svs.length = n
  cap : n ≤ cap
  prm : ∀ (i : Nat) (sv : Sv) (p : List Int), svs[i]? = some sv → all[i]? = some p → Kd.R (Kd.int .i64) 3 w w0.heap.size (fun b => b ≠ blk ∧ f b = i) (svE sv) p
section
variable {w0 w w' : World} {blk n cap : Nat} {f : Nat → Nat} {svs cur : List Sv} {all : List (List Int)}
theorem DfAt.below (h : DfAt w0 blk n cap f svs cur all w) (hb : Below w.heap.size w w') : DfAt w0 blk n cap f svs cur all w' :=
  ⟨below_then h.bel h.bel.size hb, Kd.R_below h.row hb, h.len, h.cap, fun i sv p h1 h2 => Kd.R_below (h.prm i sv p h1 h2) hb⟩
theorem DfAt.base (h : DfAt w0 blk n cap f svs cur all w) : w0.heap.size ≤ blk := Kd.R_base h.row blk rfl
theorem DfAt.clen (h : DfAt w0 blk n cap f svs cur all w) : cur.length = n := (Kd.R_reads' h.row).1.symm
theorem DfAt.set (h : DfAt w0 blk n cap f svs cur all w) (i : Nat) (sv : Sv) : DfAt w0 blk n cap f svs (cur.set i sv) all (w.setCell ⟨blk, i, none⟩ (svE sv)) where
  bel := h.bel.setCell h.base _
  row := by have := Kd.R_putn h.row (i : Int) sv; rwa [Int.toNat_natCast] at this
  len := h.len
  cap := h.cap
  prm := fun j s p h1 h2 => Kd.R_far (h.prm j s p h1 h2) (fun b hb => hb.1) _
theorem DfAt.cell (h : DfAt w0 blk n cap f svs cur all w) {i : Nat} {sv : Sv} (hs : cur[i]? = some sv) : w.cell? ⟨blk, i, none⟩ = some (svE sv) ∧ w.frozen? ⟨blk, i, none⟩ = false := by
  have hi : i < cur.length := (List.getElem?_eq_some_iff.1 hs).1
  have := Kd.R_celln (none, 0, 0) h.row (i : Int) (by omega) (by rw [h.clen] at hi; omega)
  rw [Int.toNat_natCast] at this
  have e : rdOf (none, 0, 0) cur (i : Int) = sv := by
    unfold rdOf
    rw [Int.toNat_natCast, List.getD_eq_getElem?_getD, hs]; rfl
  rw [e] at this
  exact this
theorem DfAt.sv_at (h : DfAt w0 blk n cap f svs cur all w) {i : Nat} (hi : i < n) : ∃ sv, cur[i]? = some sv := ⟨_, List.getElem?_eq_getElem (by rw [h.clen]; exact hi)⟩
theorem DfAt.perm_R (h : DfAt w0 blk n cap f svs cur all w) {i : Nat} {sv : Sv} {p : List Int} (hs : svs[i]? = some sv) (hp : all[i]? = some p) : Kd.R (Kd.int .i64) 3 w w0.heap.size (fun _ => True) (svE sv) p := Kd.R_mono (h.prm i sv p hs hp) (fun _ _ => trivial)
theorem DfAt.zeros : ∀ (m k : Nat) {cur : List Sv} {w : World}, DfAt w0 blk n cap f svs cur all w → k + m ≤ n → ∃ cur2, DfAt w0 blk n cap f svs cur2 all (w.setCells blk k (List.replicate m (.slice none 0 0))) ∧ cur2.take k = cur.take k
  | 0, k, cur, w, h, _ => ⟨cur, h, rfl⟩
  | m + 1, k, cur, w, h, hk => by
    obtain ⟨c2, h2, e⟩ := DfAt.zeros m (k + 1) (h.set k (none, 0, 0)) (by omega)
    refine ⟨c2, h2, ?_⟩
    have := congrArg (List.take k) e
    rw [List.take_take, List.take_take, Nat.min_eq_left (by omega)] at this
    rw [this, List.take_set_of_le (Nat.le_refl _)]
def keptIx (kp : List Int → Bool) (all : List (List Int)) (j : Nat) : List Nat := (List.range j).filter fun i => kp (all.getD i [])
theorem keptIx_lt {kp : List Int → Bool} {j i : Nat} (h : i ∈ keptIx kp all j) : i < j := List.mem_range.1 (List.mem_filter.1 h).1
theorem keptIx_nodup (kp : List Int → Bool) (j : Nat) : (keptIx kp all j).Nodup := List.Pairwise.filter _ List.nodup_range
theorem keptIx_keep {kp : List Int → Bool} {j : Nat} {p : List Int} (hp : all[j]? = some p) (hk : kp p = true) : keptIx kp all (j + 1) = keptIx kp all j ++ [j] := by
  unfold keptIx
  rw [List.range_succ, List.filter_append, List.filter_cons_of_pos (by rw [List.getD_eq_getElem?_getD, hp]; exact hk), List.filter_nil]
theorem keptIx_drop {kp : List Int → Bool} {j : Nat} {p : List Int} (hp : all[j]? = some p) (hk : kp p = false) : keptIx kp all (j + 1) = keptIx kp all j := by
  unfold keptIx
  rw [List.range_succ, List.filter_append, List.filter_cons_of_neg (by rw [List.getD_eq_getElem?_getD, hp]; simp [hk]), List.filter_nil, List.append_nil]
theorem keptIx_range {kp : List Int → Bool} {t : Nat} (h : ∀ s, s < t → kp (all.getD s []) = true) : keptIx kp all t = List.range t := by
  unfold keptIx
  rw [List.filter_eq_self]
  exact fun a ha => h a (List.mem_range.1 ha)
theorem keptIx_first {kp : List Int → Bool} {t : Nat} (h : ∀ s, s < t → kp (all.getD s []) = true) (hn : kp (all.getD t []) = false) : keptIx kp all (t + 1) = List.range t := by
  have e : keptIx kp all (t + 1) = keptIx kp all t := by
    unfold keptIx
    rw [List.range_succ, List.filter_append, List.filter_cons_of_neg (by rw [hn]; simp), List.filter_nil, List.append_nil]
  rw [e, keptIx_range h]
theorem keptIx_map (kp : List Int → Bool) : ∀ (all : List (List Int)), (keptIx kp all all.length).map (fun i => all.getD i []) = all.filter kp := by
  intro all
  have h : ∀ j, j ≤ all.length → (keptIx kp all j).map (fun i => all.getD i []) = (all.take j).filter kp := by
    intro j
    induction j with
    | zero => intro _; rfl
    | succ j ih =>
      intro hj
      have hg : all[j]? = some all[j] := List.getElem?_eq_getElem (by omega)
      rw [List.take_succ_eq_append_getElem (by omega), List.filter_append, ← ih (by omega)]
      cases hk : kp all[j] with
      | true => rw [keptIx_keep hg hk, List.map_append, List.filter_cons_of_pos hk, List.filter_nil, List.map_cons, List.map_nil, List.getD_eq_getElem?_getD, hg]; rfl
      | false => rw [keptIx_drop hg hk, List.filter_cons_of_neg (by simp [hk]), List.filter_nil, List.append_nil]
  rw [h _ (Nat.le_refl _), List.take_length]
theorem outIx_spec (kp : List Int → Bool) : ∀ (l : List (List Int)) (i : Nat), (outIx kp i l = -1 ∧ ∀ s, s < l.length → kp (l.getD s []) = true) ∨ ∃ t, t < l.length ∧ outIx kp i l = ((i + t : Nat) : Int) ∧ (∀ s, s < t → kp (l.getD s []) = true) ∧ kp (l.getD t []) = false
  | [], i => .inl ⟨rfl, fun s hs => by simp at hs⟩
  | p :: r, i => by
    cases hk : kp p with
    | false => exact .inr ⟨0, by simp, by rw [outIx, if_neg (by simp [hk])]; rfl, fun s hs => absurd hs (Nat.not_lt_zero _), hk⟩
    | true =>
      rw [outIx, if_pos hk]
      rcases outIx_spec kp r (i + 1) with ⟨h1, h2⟩ | ⟨t, h1, h2, h3, h4⟩
      · refine .inl ⟨h1, fun s hs => ?_⟩
        cases s with
        | zero => exact hk
        | succ s => exact h2 s (by simp at hs; omega)
      · refine .inr ⟨t + 1, by simp; omega, by rw [h2]; congr 1; omega, fun s hs => ?_, h4⟩
        cases s with
        | zero => exact hk
        | succ s => exact h3 s (by omega)
theorem take_map_getD {l : List Sv} {n t : Nat} (hl : l.length = n) (ht : t ≤ n) : l.take t = (List.range t).map fun i => l.getD i (none, 0, 0) := by
  subst hl
  apply List.ext_getElem
  · simp; omega
  · intro i h1 h2
    simp at h2
    rw [List.getElem_take, List.getElem_map, List.getElem_range, List.getD_eq_getElem?_getD, List.getElem?_eq_getElem (by omega)]; rfl
theorem take_set_kept {kp : List Int → Bool} {j m : Nat} {sv : Sv} (h : cur.take (keptIx kp all j).length = (keptIx kp all j).map fun i => svs.getD i (none, 0, 0)) (hm : (keptIx kp all j).length = m) (hs : svs[j]? = some sv) (hl : m < cur.length) : (cur.set m sv).take (m + 1) = (keptIx kp all j ++ [j]).map fun i => svs.getD i (none, 0, 0) := by
  rw [hm] at h
  rw [List.take_succ_eq_append_getElem (by rw [List.length_set]; exact hl), List.take_set_of_le (Nat.le_refl _), h, List.map_append, List.getElem_set_self, List.map_cons, List.map_nil, List.getD_eq_getElem?_getD, hs]; rfl
theorem DfAt.pack {kp : List Int → Bool} {m : Nat} (h : DfAt w0 blk n cap f svs cur all w) (hal : all.length = n) (hm : m ≤ n) {idx : List Nat} (hidx : idx = keptIx kp all n) (hlen : idx.length = m) (hc : cur.take m = idx.map fun i => svs.getD i (none, 0, 0)) : Kd.S (Kd.slice 3 (Kd.int .i64)) 39 w w0.heap.size (fun _ => True) (.slice (some ⟨blk, 0, none⟩) m cap) (all.filter kp) := by
  have hR := Kd.R_take h.row (m := m) (by rw [h.clen]; exact hm)
  rw [hc] at hR
  have hnd : idx.Nodup := hidx ▸ keptIx_nodup kp n
  have he : all.filter kp = idx.map fun i => all.getD i [] := by rw [hidx, ← hal, keptIx_map]
  refine S_pack (fun b => idx.idxOf (f b)) (by rw [he]; simp) hR (fun _ _ => trivial) (fun t sv p hsv hp => ?_)
  rw [he, List.getElem?_map] at hp
  rw [List.getElem?_map] at hsv
  obtain ⟨i, hi, rfl⟩ := Option.map_eq_some_iff.1 hsv
  rw [hi] at hp
  obtain rfl := Option.some.inj hp
  have hmem : i ∈ idx := List.mem_of_getElem? hi
  have hil : i < n := keptIx_lt (hidx ▸ hmem)
  have h1 := h.prm i (svs.getD i (none, 0, 0)) (all.getD i []) (by rw [List.getD_eq_getElem?_getD, List.getElem?_eq_getElem (by rw [h.len]; exact hil)]; rfl) (by rw [List.getD_eq_getElem?_getD, List.getElem?_eq_getElem (by omega)]; rfl)
  refine Kd.R_mono h1 (fun b hb => ⟨trivial, fun e => hb.1 (Option.some.inj e), ?_⟩)
  show idx.idxOf (f b) = t
  rw [hb.2]
  obtain ⟨ht, e⟩ := List.getElem?_eq_some_iff.1 hi
  rw [← e]
  exact hnd.idxOf_getElem t ht
theorem DfAt.of_S (hb : Below w0.heap.size w0 w) (hS : Kd.S (Kd.slice 3 (Kd.int .i64)) 39 w w0.heap.size (fun _ => True) (.slice (some ⟨blk, 0, none⟩) all.length cap) all) : ∃ (f : Nat → Nat) (svs : List Sv), DfAt w0 blk all.length cap f svs svs all w := by
  have hcap := (Kd.S_reads' hS).2.1
  obtain ⟨f, svs, hl, hR, _, hp⟩ := S_vals hS
  refine ⟨f, svs, hb, Kd.R_mono hR (fun b h => Option.some.inj h), hl, hcap, fun i sv p h1 h2 => Kd.R_mono (hp i sv p h1 h2) (fun b h => ⟨fun e => h.2.1 (congrArg some e), h.2.2⟩)⟩
end
end Go.Proofs.YtmbldnoepjmhhaaGreat.Bs
end
section
/- slices.IndexFunc and slices.DeleteFunc over perms, the closure that of permgroup.Meet. -/
namespace Go.Proofs.YtmbldnoepjmhhaaGreat.Bs
open Go.RowKit Go.Proofs.YtmbldnoepjmhhaaGreatW.PrintWords Go.Proofs.YtmbldnoepjmhhaaGreatW.PrintLast Go.Proofs.YtmbldnoepjmhhaaGreatW.PrintMore Go.Proofs.YtmbldnoepjmhhaaGreat.Plain Go.Proofs.YtmbldnoepjmhhaaGreat.PBs
def CloMeet (w0 : World) (pb : Nat) (all : List (List Int)) (kp : List Int → Bool) : Prop := ∀ (W : World) (v : Value) (p : List Int), Below w0.heap.size w0 W → p ∈ all → Kd.R (Kd.int .i64) 3 W w0.heap.size (fun _ => True) v p → Calls Tryz.prog 81 #[v, .pointer (some ⟨pb, 0, none⟩)] W fun e w' => e = .returned (.bool (!kp p)) ∧ Below W.heap.size W w'
set_option maxHeartbeats 8000000 in
set_option maxRecDepth 100000 in
theorem indexMeet_any {w0 w : World} {pb blk n cap : Nat} {f : Nat → Nat} {svs : List Sv} {all : List (List Int)} {kp : List Int → Bool} (hclo : CloMeet w0 pb all kp) (hn : n ≤ 100000) (hal : all.length = n) (hD : DfAt w0 blk n cap f svs svs all w) :
    Calls Tryz.prog 110 #[.slice (some ⟨blk, 0, none⟩) n cap, .func (.func 81) #[] #[.pointer (some ⟨pb, 0, none⟩)]] w fun e w' => e = .returned (.int .i64 (outIx kp 0 all)) ∧ Below w.heap.size w w' := by
  obtain ⟨r, hr⟩ : ∃ r, outIx kp 0 all = r := ⟨_, rfl⟩
  rw [hr]
  have H := Aside0.mk (show outIx kp 0 (all.drop 0) = r from hr)
  have HD := Aside0.mk hD
  have HN := Aside0.mk hn
  have HAL := Aside0.mk hal
  have HCLO := Aside0.mk hclo
  clear hr hD hclo hn hal
  go_enter Tryz.func110, Tryz.ntmps110
  go_wp2
  go_loopg [8] n (fun kq v8 w' => ∃ (j : Nat), v8 = .int .i64 (j : Int) ∧ Aside0 (outIx kp j (all.drop j) = r) ∧ Aside0 (Below w.heap.size w w') ∧ Aside0 (j + kq = n))
  case atStart => exact ⟨0, (by first | rfl | (simp; done)), H, ⟨Below.refl _ _⟩, ⟨by omega⟩⟩
  case round =>
    clear H
    obtain ⟨j, rfl, HA, HB, HJ⟩ := hrel
    have h := HA.out
    clear HA
    cases gk with
    | zero =>
      have hj : (j < n) = False := eq_false (by have := HJ.out; omega)
      have hj2 : ((j : Int) < (n : Int)) = False := eq_false (by have := HJ.out; omega)
      rw [List.drop_eq_nil_of_le (by have := HJ.out; have := HAL.out; omega), outIx] at h
      subst h
      go_wp2
      go_ret
      exact ⟨rfl, HB.out⟩
    | succ m1 =>
      have hjl : j < n := by have := HJ.out; omega
      have hja : j < all.length := by have := HAL.out; omega
      have hj : (j < n) = True := eq_true hjl
      have hj2 : ((j : Int) < (n : Int)) = True := eq_true (by omega)
      have hj0 : (0 ≤ (j : Int)) = True := eq_true (by omega)
      have HJ2 : Aside0 (j + 1 + m1 = n) := ⟨by have := HJ.out; omega⟩
      rw [List.drop_eq_getElem_cons hja, outIx] at h
      obtain ⟨p, hp⟩ : ∃ p, all[j] = p := ⟨_, rfl⟩
      rw [hp] at h
      have HDW := Aside0.mk (HD.out.below HB.out)
      obtain ⟨sv, hsv⟩ := HDW.out.sv_at (i := j) hjl
      obtain ⟨hc0, _⟩ := HDW.out.cell hsv
      have hpr := HDW.out.perm_R hsv (by rw [List.getElem?_eq_getElem hja, hp])
      have hpa := PermAt.of_R hpr
      obtain ⟨sa, sn, sc⟩ := sv
      obtain ⟨A_, c_, e_, _, _⟩ := id hpa
      simp only [svE] at hc0 hpa hpr e_
      injection e_ with e1 e2 e3
      subst e2
      have HPA := Aside0.mk hpr
      have HPM : Aside0 (p ∈ all) := ⟨hp ▸ List.getElem_mem hja⟩
      have HB0 := Aside0.mk HDW.out.bel
      have wi : wrap64 ((j : Int) + 1) = ((j + 1 : Nat) : Int) := (IntWalk.wrap64_in _ ⟨by omega, by have := HN.out; omega⟩).trans (by omega)
      clear hp hja hjl hpa hpr e1 e3 hsv
      by_cases eb : kp p = true
      · rw [if_pos eb] at h
        have H := Aside0.mk h
        have EB := Aside0.mk eb
        clear h eb
        go_wp2_with (go_at_call 81; (refine (HCLO.out _ _ p HB0.out HPM.out HPA.out).mono ?_); rintro e w3 ⟨rfl, hb3⟩; rw [EB.out]; have HB3 := Aside0.mk (below_step HB.out hb3); clear hb3)
        go_roundg m1
        case measure => exact Nat.lt_succ_self _
        case rel => exact ⟨j + 1, (by first | (rw [wi]; done) | rfl), H, HB3, HJ2⟩
      · rw [if_neg eb] at h
        subst h
        have EB := Aside0.mk (show kp p = false by cases e : kp p <;> simp_all)
        clear eb
        go_wp2_with (go_at_call 81; (refine (HCLO.out _ _ p HB0.out HPM.out HPA.out).mono ?_); rintro e w3 ⟨rfl, hb3⟩; rw [EB.out]; have HB3 := Aside0.mk (below_step HB.out hb3); clear hb3)
        go_ret
        exact ⟨rfl, HB3.out⟩
set_option maxHeartbeats 8000000 in
set_option maxRecDepth 100000 in
theorem deleteMeet_any {w0 w : World} {pb blk n cap : Nat} {f : Nat → Nat} {svs : List Sv} {all : List (List Int)} {kp : List Int → Bool} (hclo : CloMeet w0 pb all kp) (hn : n ≤ 100000) (hal : all.length = n) (hD : DfAt w0 blk n cap f svs svs all w) :
    Calls Tryz.prog 70 #[.slice (some ⟨blk, 0, none⟩) n cap, .func (.func 81) #[] #[.pointer (some ⟨pb, 0, none⟩)]] w fun e w' => ∃ v, e = .returned v ∧ Kd.S (Kd.slice 3 (Kd.int .i64)) 39 w' w0.heap.size (fun _ => True) v (all.filter kp) ∧ Below w0.heap.size w0 w' := by
  obtain ⟨r, hr⟩ : ∃ r, outIx kp 0 all = r := ⟨_, rfl⟩
  have hS := outIx_spec kp all 0
  rw [hr] at hS
  have HD := Aside0.mk hD
  have HN := Aside0.mk hn
  have HAL := Aside0.mk hal
  have HCLO := Aside0.mk hclo
  have HIX := Aside0.mk (show Calls _ _ _ w fun e w' => e = .returned (.int .i64 r) ∧ Below w.heap.size w w' from hr ▸ indexMeet_any hclo hn hal hD)
  have HR := Aside0.mk hr
  clear hr hD hclo hn hal
  go_enter Tryz.func70, Tryz.ntmps70
  rcases hS with ⟨rfl, hall⟩ | ⟨t, ht, hrt, hkp, hnk⟩
  · have HALL := Aside0.mk hall
    clear hall
    go_wp2_with (go_at_call 110; (refine HIX.out.mono ?_); rintro e w1 ⟨rfl, hb1⟩; replace HD := Aside0.mk (HD.out.below hb1); clear hb1)
    go_ret
    exact ⟨_, rfl, HD.out.pack HAL.out (Nat.le_refl _) (keptIx_range (fun s hs => HALL.out s (by rw [HAL.out]; exact hs))).symm List.length_range (take_map_getD HD.out.clen (Nat.le_refl _)), HD.out.bel⟩
  · rw [Nat.zero_add] at hrt
    subst hrt
    have htn : t < n := by have := HAL.out; omega
    have h1 : ((t : Int) == -1) = false := beq_eq_false_iff_ne.2 (by omega)
    have h2 : ((t : Int) = -1) = False := eq_false (by omega)
    have wt : wrap64 ((t : Int) + 1) = ((t + 1 : Nat) : Int) := (IntWalk.wrap64_in _ ⟨by omega, by have := HN.out; omega⟩).trans (by omega)
    have HT := Aside0.mk htn
    have HKP := Aside0.mk hkp
    have HNK := Aside0.mk hnk
    have HWT := Aside0.mk wt
    clear hkp hnk ht htn wt
    go_wp2_with (go_at_call 110; (refine HIX.out.mono ?_); rintro e w1 ⟨rfl, hb1⟩; replace HD := Aside0.mk (HD.out.below hb1); clear hb1)
    go_loopg [5, 6, 7] (n - (t + 1)) (fun kq v5 v6 v7 w' => ∃ (j : Nat) (cur : List Sv), v5 = .int .i64 (((keptIx kp all j).length : Nat) : Int) ∧ v6 = .int .i64 (j : Int) ∧ Aside0 (DfAt w0 blk n cap f svs cur all w') ∧ Aside0 (cur.take (keptIx kp all j).length = (keptIx kp all j).map fun i => svs.getD i (none, 0, 0)) ∧ Aside0 (∀ i, j ≤ i → cur[i]? = svs[i]?) ∧ Aside0 (j + kq = n ∧ (keptIx kp all j).length < j))
    case atStart =>
      refine ⟨t + 1, svs, ?_, (by first | (rw [HWT.out]; done) | rfl), HD, ⟨?_⟩, ⟨fun i _ => rfl⟩, ⟨by have := HT.out; omega, ?_⟩⟩
      · first | (rw [keptIx_first HKP.out HNK.out, List.length_range]; done) | (rw [keptIx_first HKP.out HNK.out, List.length_range])
      · rw [keptIx_first HKP.out HNK.out, List.length_range]
        exact take_map_getD HD.out.clen (by have := HT.out; omega)
      · rw [keptIx_first HKP.out HNK.out, List.length_range]; omega
    case round =>
      clear HD HIX
      obtain ⟨j, cur, rfl, rfl, HDW, HTK, HUP, HJ⟩ := hrel
      obtain ⟨m, hm⟩ : ∃ m, (keptIx kp all j).length = m := ⟨_, rfl⟩
      have HM := Aside0.mk hm
      rw [hm]
      clear hm
      have hmj : m < j := by have := HJ.out.2; have := HM.out; omega
      have hjn : j ≤ n := by have := HJ.out.1; omega
      have hm1 : (m < n) = True := eq_true (by omega)
      have hm2 : ((m : Int) < (n : Int)) = True := eq_true (by omega)
      have hm3 : (0 ≤ (m : Int)) = True := eq_true (by omega)
      have hm4 : (m ≤ n) = True := eq_true (by omega)
      have hm5 : ((m : Int) ≤ (n : Int)) = True := eq_true (by omega)
      have HMJ := Aside0.mk hmj
      have HJN := Aside0.mk hjn
      clear hmj hjn
      cases gk with
      | zero =>
        have hj : (j < n) = False := eq_false (by have := HJ.out; omega)
        have hj2 : ((j : Int) < (n : Int)) = False := eq_false (by have := HJ.out; omega)
        have hcl : ∀ ty, (Builtin.clear_ #[22] ty #[.slice (some ⟨blk, m, none⟩) (n - m) (cap - m)]).run Tryz.prog wr = .ok (.tuple #[]) (wr.setCells blk m (List.replicate (n - m) (.slice none 0 0))) :=
          fun ty => Lib.run_clear_slice wr _ 39 ty _ rfl (fun w => rfl) rfl rfl blk m _ _ (by have := HMJ.out; have := HJN.out; omega) (fun q hq => by obtain ⟨sv, hsv⟩ := HDW.out.sv_at (i := m + q) (by omega); rw [(HDW.out.cell hsv).1]; rfl) (fun q hq => by obtain ⟨sv, hsv⟩ := HDW.out.sv_at (i := m + q) (by omega); exact (HDW.out.cell hsv).2)
        have hcap : (n ≤ cap) = True := eq_true HDW.out.cap
        have hcap2 : ((n : Int) ≤ (cap : Int)) = True := eq_true (by have := HDW.out.cap; omega)
        have hcap3 : (m ≤ cap) = True := eq_true (by have := HDW.out.cap; have := HMJ.out; have := HJN.out; omega)
        have hcap4 : ((m : Int) ≤ (cap : Int)) = True := eq_true (by have := HDW.out.cap; have := HMJ.out; have := HJN.out; omega)
        have hcap5 : (m = cap) = False := eq_false (by have := HDW.out.cap; have := HMJ.out; have := HJN.out; omega)
        have hcap6 : (cap = m) = False := eq_false (by have := HDW.out.cap; have := HMJ.out; have := HJN.out; omega)
        have hcap7 : (m == cap) = false := beq_eq_false_iff_ne.2 (by have := HDW.out.cap; have := HMJ.out; have := HJN.out; omega)
        go_wp2
        go_ret
        obtain ⟨cur2, hD2, ht2⟩ := HDW.out.zeros (n - m) m (by have := HMJ.out; have := HJN.out; omega)
        have hjn : j = n := by have := HJ.out.1; omega
        refine ⟨_, rfl, ?_, hD2.bel⟩
        subst hjn
        exact hD2.pack HAL.out (by have := HMJ.out; omega) rfl HM.out (ht2.trans (by have := HTK.out; rw [HM.out] at this; exact this))
      | succ m1 =>
        have hjl : j < n := by have := HJ.out; omega
        have hja : j < all.length := by have := HAL.out; omega
        have hj : (j < n) = True := eq_true hjl
        have hj2 : ((j : Int) < (n : Int)) = True := eq_true (by omega)
        have hj0 : (0 ≤ (j : Int)) = True := eq_true (by omega)
        obtain ⟨p, hp⟩ : ∃ p, all[j] = p := ⟨_, rfl⟩
        have hpg : all[j]? = some p := by rw [List.getElem?_eq_getElem hja, hp]
        obtain ⟨sv, hsv⟩ := HDW.out.sv_at (i := j) hjl
        have hsv0 : svs[j]? = some sv := (HUP.out j (Nat.le_refl _)).symm.trans hsv
        obtain ⟨hc0, _⟩ := HDW.out.cell hsv
        have hpr := HDW.out.perm_R hsv0 hpg
        have hpa := PermAt.of_R hpr
        have HSV := Aside0.mk hsv0
        obtain ⟨sa, sn, sc⟩ := sv
        obtain ⟨A_, c_, e_, _, _⟩ := id hpa
        simp only [svE] at hc0 hpa hpr e_
        injection e_ with e1 e2 e3
        subst e2
        have HPA := Aside0.mk hpr
        have HPM : Aside0 (p ∈ all) := ⟨hp ▸ List.getElem_mem hja⟩
        have HPG := Aside0.mk hpg
        have HB0 := Aside0.mk HDW.out.bel
        obtain ⟨svm, hsvm⟩ := HDW.out.sv_at (i := m) (by have := HMJ.out; omega)
        have HSM := Aside0.mk hsvm
        have HJL := Aside0.mk hjl
        have wi : wrap64 ((j : Int) + 1) = ((j + 1 : Nat) : Int) := (IntWalk.wrap64_in _ ⟨by omega, by have := HN.out; omega⟩).trans (by omega)
        have wm : wrap64 ((m : Int) + 1) = ((m + 1 : Nat) : Int) := (IntWalk.wrap64_in _ ⟨by omega, by have := HN.out; have := HMJ.out; omega⟩).trans (by omega)
        clear hp hja hjl hpa hpr e1 e3 hsv hsv0 hpg hsvm
        by_cases eb : kp p = true
        · have EB := Aside0.mk eb
          clear eb
          go_wp2_with (go_at_call 81; (refine (HCLO.out _ _ p HB0.out HPM.out HPA.out).mono ?_); rintro e w3 ⟨rfl, hb3⟩; rw [EB.out]; replace HDW := Aside0.mk (HDW.out.below hb3); obtain ⟨hk0, hk1⟩ := HDW.out.cell HSM.out; clear hb3)
          go_roundg m1
          case measure => exact Nat.lt_succ_self _
          case rel =>
            refine ⟨j + 1, cur.set m (sa, p.length, sc), ?_, (by first | (rw [wi]; done) | rfl), ⟨HDW.out.set m _⟩, ⟨?_⟩, ⟨fun i hi => ?_⟩, ⟨by have := HJ.out; omega, ?_⟩⟩
            · rw [keptIx_keep HPG.out EB.out, List.length_append, List.length_singleton, HM.out]; first | (rw [wm]; done) | rfl
            · rw [keptIx_keep HPG.out EB.out, List.length_append, List.length_singleton, HM.out]
              exact take_set_kept HTK.out HM.out HSV.out (by rw [HDW.out.clen]; have := HMJ.out; have := HJL.out; omega)
            · rw [List.getElem?_set_ne (by have := HMJ.out; omega)]
              exact HUP.out i (by omega)
            · rw [keptIx_keep HPG.out EB.out, List.length_append, List.length_singleton, HM.out]; have := HMJ.out; omega
        · have EB := Aside0.mk (show kp p = false by cases e : kp p <;> simp_all)
          clear eb
          go_wp2_with (go_at_call 81; (refine (HCLO.out _ _ p HB0.out HPM.out HPA.out).mono ?_); rintro e w3 ⟨rfl, hb3⟩; rw [EB.out]; replace HDW := Aside0.mk (HDW.out.below hb3); clear hb3)
          go_roundg m1
          case measure => exact Nat.lt_succ_self _
          case rel =>
            refine ⟨j + 1, cur, ?_, (by first | (rw [wi]; done) | rfl), HDW, ⟨?_⟩, ⟨fun i hi => HUP.out i (by omega)⟩, ⟨by have := HJ.out; omega, ?_⟩⟩
            · rw [keptIx_drop HPG.out EB.out, HM.out]
            · rw [keptIx_drop HPG.out EB.out]; exact HTK.out
            · rw [keptIx_drop HPG.out EB.out, HM.out]; have := HMJ.out; omega
end Go.Proofs.YtmbldnoepjmhhaaGreat.Bs
end
