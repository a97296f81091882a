/- Texts of this claim put together (wip/tools/merge.py). -/
import Derived.Test.YtaaaljifclecnaaZCosetDoublesPCox0
import Derived.Test.YtaaaljifclecnaaZCosetDoublesPCox1
import Derived.Test.YtaaaljifclecnaaZCosetDoublesMg1
import Derived.Maps.OwnOps
import Derived.Maps.OwnSet
import Derived.StringKeys
import Derived.Test.YtaaaljifclecnaaZCosetDoublesMg0
import Derived.Test.YtaaaljifclecnaaZCosetDoublesMg3
set_option linter.unusedVariables false
set_option linter.unusedSimpArgs false
section
/- A map from texts to numbers that the call made, told by what it holds; what cosetsOf makes. -/
namespace Go.Proofs.Ytaaaljifclecnaa.Bs
open Go.RowKit Go.Maps Go.Proofs.YtaaaljifclecnaaW.PrintWords Go.Proofs.YtaaaljifclecnaaW.PrintLast Go.Proofs.YtaaaljifclecnaaW.PrintMore Go.Proofs.Ytaaaljifclecnaa.Plain Go.Proofs.Ytaaaljifclecnaa.PBs
open Go.Proofs.Ytaaaljifclecnaa.PCo (coset_mul.f coset_mul.mono coset_mul.calls coset_key.f coset_key.mono coset_key.calls permgroup_Elements.f permgroup_Elements.mono permgroup_Elements.calls)
def klit (s : ByteArray) : Lit := .string s.data.toList
theorem klit_inj {s t : ByteArray} (h : klit s = klit t) : s = t := by
  unfold klit at h
  injection h with h
  have : s.data = t.data := Array.toList_inj.1 h
  cases s; cases t; simp_all
def upd (f : ByteArray → Option Int) (s : ByteArray) (c : Int) : ByteArray → Option Int := fun t => if t = s then some c else f t
def Holds (D : DataW Unit) (f : ByteArray → Option Int) : Prop := ∀ s : ByteArray, Maps.has D (klit s) = (f s).isSome ∧ ∀ c, f s = some c → D.atKey (klit s) (.lit (.int .i64 0)) = .lit (.int .i64 c)
def NumAt (w : World) (b n : Nat) (f : ByteArray → Option Int) : Prop := ∃ D : DataW Unit, w.ownsMap Try.prog 9 (plainElem Try.prog 3) b n D ∧ Holds D f
theorem law_str : Keyed Try.prog 9 := string_keyed Try.underlying9
theorem Holds.nil : Holds (.map []) (fun _ => none) := fun s => ⟨rfl, fun c h => by cases h⟩
theorem NumAt.made (w : World) : NumAt (w.alloc (.map #[] 0)) w.heap.size 0 (fun _ => none) := ⟨_, World.ownsMap_made w _ _ _, Holds.nil⟩
theorem NumAt.kept {w w' : World} {b n : Nat} {f : ByteArray → Option Int} {row : Option Nat} (h : NumAt w b n f) (hg : w.grownBy w' row) (hne : some b ≠ row) : NumAt w' b n f := by
  obtain ⟨D, h1, h2⟩ := h
  exact ⟨D, h1.kept hg hne, h2⟩
theorem NumAt.below {w w' : World} {b n : Nat} {f : ByteArray → Option Int} (h : NumAt w b n f) (hb : Below w.heap.size w w') : NumAt w' b n f := h.kept (grown_of_below hb none) (by simp)
theorem NumAt.lt {w : World} {b n : Nat} {f : ByteArray → Option Int} (h : NumAt w b n f) : b < w.heap.size := by
  obtain ⟨D, h1, _⟩ := h
  exact h1.lt
theorem Holds.put {D : DataW Unit} {f : ByteArray → Option Int} (h : Holds D f) (hD : Maps.IsMap D) (s : ByteArray) (c : Int) : Holds (D.put (klit s) (.lit (.int .i64 c))) (upd f s c) := fun t => by
  by_cases e : t = s
  · subst e
    refine ⟨?_, fun c' hc => ?_⟩
    · rw [has_put_same hD (by simp [klit, WideAt.IsKeyLit]) _]; simp [upd]
    · have : c = c' := by simpa [upd] using hc
      subst this
      exact atKey_put_same hD (by simp [klit, WideAt.IsKeyLit]) _ _
  · have hne : klit t ≠ klit s := fun h => e (klit_inj h)
    have hu : upd f s c t = f t := if_neg e
    rw [hu]
    refine ⟨?_, fun c' hc => ?_⟩
    · rw [has_put_other hne]; exact (h t).1
    · rw [atKey_put_other hne]; exact (h t).2 c' hc
theorem Holds.look {D : DataW Unit} {f : ByteArray → Option Int} (h : Holds D f) {s : ByteArray} {c : Int} (hat : D.atKey (klit s) (.lit (.int .i64 0)) = .lit (.int .i64 c)) : c = (f s).getD 0 := by
  obtain ⟨h1, h2⟩ := h s
  cases hf : f s with
  | some c' =>
    rw [h2 c' hf] at hat
    injection hat with hat
    injection hat with _ hat
    exact hat.symm
  | none =>
    rw [hf] at h1
    rw [atKey_of_not_has h1] at hat
    injection hat with hat
    injection hat with _ hat
    exact hat.symm
theorem zero3 (w : World) : (zeroValue 3).run Try.prog w = .ok (.int .i64 0) w := by kernel_rfl
theorem key_lit {s : ByteArray} (h : s.size ≤ 1000) : keyOf Try.prog 9 (.string s) = some (klit s) := Go.WideMaps.keyOf_string_mk Try.underlying9 (by unfold maxLen; omega)
theorem NumAt.look_ok {w : World} {b n : Nat} {f : ByteArray → Option Int} (h : NumAt w b n f) {s : ByteArray} (hs : s.size ≤ 1000) : (Instr.lookup 79 (.map (some b)) (.string s) true).run Try.prog w = .ok (.tuple #[.int .i64 ((f s).getD 0), .bool (f s).isSome]) w := by
  obtain ⟨D, h1, h2⟩ := h
  obtain ⟨v, ps, hrun, hv⟩ := h1.look_ok law_str Try.underlying79 (zero3 w) (plainElem_int (H := Unit) Try.underlying3 (q := .i64) (a := 0) (by decide)) (key_lit hs)
  obtain ⟨c, rfl, hc, _⟩ := plainElem_int_inv Try.underlying3 hv
  rw [hrun, (h2 s).1]
  rw [h2.look (congrArg Prod.fst hc)]
theorem NumAt.look {w : World} {b n : Nat} {f : ByteArray → Option Int} (h : NumAt w b n f) {s : ByteArray} (hs : s.size ≤ 1000) : (Instr.lookup 79 (.map (some b)) (.string s) false).run Try.prog w = .ok (.int .i64 ((f s).getD 0)) w := by
  obtain ⟨D, h1, h2⟩ := h
  obtain ⟨c, hrun, hat, _⟩ := h1.lookup_int law_str Try.underlying79 Try.underlying3 (zero3 w) (key_lit hs)
  rw [hrun, h2.look hat]
theorem NumAt.store {w : World} {b n : Nat} {f : ByteArray → Option Int} (h : NumAt w b n f) (hn : n < 1000000000) {s : ByteArray} (hs : s.size ≤ 1000) {c : Int} (hc : (Lit.int .i64 c).wf = true) : ∃ w', (Instr.mapUpdate 79 (.map (some b)) (.string s) (.int .i64 c)).run Try.prog w = .ok () w' ∧ NumAt w' b (n + 1) (upd f s c) ∧ w.grownBy w' (some b) := by
  obtain ⟨D, h1, h2⟩ := h
  obtain ⟨w', hrun, h3, h4⟩ := h1.update law_str Try.underlying79 (by unfold maxLen; omega) (key_lit hs) (plainElem_int (H := Unit) Try.underlying3 hc)
  exact ⟨w', hrun, ⟨_, h3, h2.put h1.isMap s c⟩, h4⟩
def storeL (k : Nat) (p : List Int) (c : Int) : List (List Int) → (ByteArray → Option Int) → Option (ByteArray → Option Int)
  | [], f => some f
  | x :: r, f => (coset_mul.f k x p).bind fun y => (coset_key.f k y).bind fun s => if s.size ≤ 1000 then storeL k p c r (upd f s c) else none
def cosL (k : Nat) (own : List (List Int)) : List (List Int) → List (List Int) → (ByteArray → Option Int) → Option (List (List Int) × (ByteArray → Option Int))
  | [], least, f => some (least, f)
  | p :: r, least, f => (coset_key.f k p).bind fun s => if s.size ≤ 1000 then (if (f s).isSome = true then cosL k own r least f else (storeL k p (least.length : Int) own f).bind fun f' => cosL k own r (least ++ [p]) f') else none
structure CosV where
  els : List (List Int)
  own : List (List Int)
  least : List (List Int)
  num : ByteArray → Option Int
def cosM (k : Nat) (a0 : Int) (l0 : List (List Int)) (a1 : Int) (l1 : List (List Int)) : Option CosV := (permgroup_Elements.f k a0 l0).bind fun e => (permgroup_Elements.f k a1 l1).bind fun o => if e.1.length ≤ 6000 ∧ o.1.length ≤ 6000 then (cosL k o.1 e.1 [] (fun _ => none)).bind fun t => some ⟨e.1, o.1, t.1, t.2⟩ else none
theorem storeL_mono (k : Nat) (p : List Int) (c : Int) : ∀ (l : List (List Int)) (f : ByteArray → Option Int), LeO (storeL k p c l f) (storeL (k + 1) p c l f)
  | [], f => LeO.refl _
  | x :: r, f => LeO.bind (coset_mul.mono _ _ _) (fun y => LeO.bind (coset_key.mono _ _) (fun s => LeO.ite (storeL_mono k p c r _) (LeO.refl _)))
theorem cosL_mono (k : Nat) (own : List (List Int)) : ∀ (l least : List (List Int)) (f : ByteArray → Option Int), LeO (cosL k own l least f) (cosL (k + 1) own l least f)
  | [], _, _ => LeO.refl _
  | p :: r, least, f => LeO.bind (coset_key.mono _ _) (fun s => LeO.ite (LeO.ite (cosL_mono k own r _ _) (LeO.bind (storeL_mono k p _ own f) (fun f' => cosL_mono k own r _ _))) (LeO.refl _))
theorem cosM_mono : ∀ a0 l0 a1 l1 k, LeO (cosM k a0 l0 a1 l1) (cosM (k + 1) a0 l0 a1 l1) := fun a0 l0 a1 l1 k => LeO.bind (permgroup_Elements.mono _ _ _) (fun e => LeO.bind (permgroup_Elements.mono _ _ _) (fun o => LeO.ite (LeO.bind (cosL_mono k _ _ _ _) (fun _ => LeO.refl _)) (LeO.refl _)))
def Cos (w : World) (v : Value) (C : CosV) : Prop := ∃ (Ae : Option Addr) (ce : Nat) (Ao : Option Addr) (co : Nat) (Al : Option Addr) (cl b n : Nat), v = .agg #[.slice Ae C.els.length ce, .slice Ao C.own.length co, .slice Al C.least.length cl, .map (some b)] ∧
  (C.els.length ≤ ce ∧ Kd.C (Kd.slice 3 (Kd.int .i64)) w Ae C.els.length C.els) ∧ (C.own.length ≤ co ∧ Kd.C (Kd.slice 3 (Kd.int .i64)) w Ao C.own.length C.own) ∧ (C.least.length ≤ cl ∧ Kd.C (Kd.slice 3 (Kd.int .i64)) w Al C.least.length C.least) ∧ NumAt w b n C.num
theorem Cos.below {w w' : World} {v : Value} {C : CosV} (h : Cos w v C) (hb : Below w.heap.size w w') : Cos w' v C := by
  obtain ⟨Ae, ce, Ao, co, Al, cl, b, n, e, h1, h2, h3, h4⟩ := h
  exact ⟨Ae, ce, Ao, co, Al, cl, b, n, e, ⟨h1.1, Kd.C_below h1.2 hb⟩, ⟨h2.1, Kd.C_below h2.2 hb⟩, ⟨h3.1, Kd.C_below h3.2 hb⟩, h4.below hb⟩
end Go.Proofs.Ytaaaljifclecnaa.Bs
end
section
/- The walk of coset.cosetsOf. -/
namespace Go.Proofs.Ytaaaljifclecnaa.Bs
open Go.RowKit Go.Maps Go.Proofs.YtaaaljifclecnaaW.PrintWords Go.Proofs.YtaaaljifclecnaaW.PrintLast Go.Proofs.YtaaaljifclecnaaW.PrintMore Go.Proofs.Ytaaaljifclecnaa.Plain Go.Proofs.Ytaaaljifclecnaa.PBs
open Go.Proofs.Ytaaaljifclecnaa.PCo (coset_mul.f coset_mul.mono coset_mul.calls coset_key.f coset_key.mono coset_key.calls permgroup_Elements.f permgroup_Elements.mono permgroup_Elements.calls)
structure OfAt (w w5 w2 : World) (X B R : Nat) (svs : List Sv) (w' : World) (ve vo vl : Value) (idx : List Nat) (n : Nat) (f : ByteArray → Option Int) : Prop where
  bel : Below w.heap.size w w'
  sz : w2.heap.size ≤ w'.heap.size
  agree : ∀ k, w5.heap.size ≤ k → k < w2.heap.size → w'.heap[k]? = w2.heap[k]?
  cx : w'.heap[X]? = some (.cells #[ve, vo, vl, .map (some B)] 81 (0, 0))
  cr : w'.heap[R]? = some (.cells #[.slice none 0 0, .slice none 0 0, .slice none 0 0, .map none] 81 (0, 0))
  num : NumAt w' B n f
  row : Kd.R kv 43 w' w2.heap.size (fun _ => True) vl (idx.map fun i => svs.getD i (none, 0, 0))
section
variable {w w5 w2 w' w'' : World} {X B R n : Nat} {svs : List Sv} {ve vo vl vl' : Value} {idx idx' : List Nat} {f f' : ByteArray → Option Int}
theorem OfAt.below (h : OfAt w w5 w2 X B R svs w' ve vo vl idx n f) (hb : Below w'.heap.size w' w'') : OfAt w w5 w2 X B R svs w'' ve vo vl idx n f where
  bel := below_then h.bel h.bel.size hb
  sz := Nat.le_trans h.sz hb.size
  agree := fun k h1 h2 => (hb.block k (Nat.lt_of_lt_of_le h2 h.sz)).trans (h.agree k h1 h2)
  cx := (hb.block X (blk_lt h.cx)).trans h.cx
  cr := (hb.block R (blk_lt h.cr)).trans h.cr
  num := h.num.below hb
  row := Kd.R_below h.row hb
theorem OfAt.put (h : OfAt w w5 w2 X B R svs w' ve vo vl idx n f) (hX : X ≠ B) (hR : R ≠ B) (hB : B < w5.heap.size) (h52 : w5.heap.size ≤ w2.heap.size) (hwB : w.heap.size ≤ B) (hN : NumAt w'' B (n + 1) f') (hg : w'.grownBy w'' (some B)) : OfAt w w5 w2 X B R svs w'' ve vo vl idx (n + 1) f' where
  bel := pw_below_grown h.bel (some B) h.bel.size hg (fun k e => by obtain rfl := Option.some.inj e; exact hwB)
  sz := Nat.le_trans h.sz hg.size
  agree := fun k h1 h2 => (hg.block k (Nat.lt_of_lt_of_le h2 h.sz) (fun e => by have := Option.some.inj e; omega)).trans (h.agree k h1 h2)
  cx := (hg.block X (blk_lt h.cx) (fun e => hX (Option.some.inj e))).trans h.cx
  cr := (hg.block R (blk_lt h.cr) (fun e => hR (Option.some.inj e))).trans h.cr
  num := hN
  row := Kd.R_mono (Kd.R_grown (Kd.R_bound h.row) hg (fun k hk e => by have := Option.some.inj e; have := hk.2.1; omega)) (fun _ _ => trivial)
theorem OfAt.push (h : OfAt w w5 w2 X B R svs w' ve vo vl idx n f) (hX : X ≠ B) (hRX : R ≠ X) (hR5 : R < w5.heap.size) (hX5 : X < w5.heap.size) (hB : B < w5.heap.size) (h52 : w5.heap.size ≤ w2.heap.size) (hwX : w.heap.size ≤ X) (h2 : w.heap.size ≤ w2.heap.size) (hR : Kd.R kv 43 w'' w2.heap.size (fun _ => True) vl' (idx'.map fun i => svs.getD i (none, 0, 0))) (hg : w'.grownBy w'' vl.ownBlock) : OfAt w w5 w2 X B R svs (w''.setCell ⟨X, 2, none⟩ vl') ve vo vl' idx' n f := by
  have hl : ∀ b, vl.ownBlock = some b → w2.heap.size ≤ b := fun b e => Kd.R_base h.row b e
  have hbel : Below w.heap.size w w'' := pw_below_grown h.bel vl.ownBlock h.bel.size hg (fun k e => by have := hl k e; omega)
  have hcx : w''.heap[X]? = some (.cells #[ve, vo, vl, .map (some B)] 81 (0, 0)) := (hg.block X (blk_lt h.cx) (fun e => by have := hl X e.symm; omega)).trans h.cx
  have hne : ∀ k, k ≠ X → (w''.setCell ⟨X, 2, none⟩ vl').heap[k]? = w''.heap[k]? := fun k hk => Below.heap_setCell w'' ⟨X, 2, none⟩ vl' k hk
  exact {
    bel := hbel.setCell hwX _
    sz := by rw [World.size_setCell]; exact Nat.le_trans h.sz hg.size
    agree := fun k h1 h3 => (hne k (by omega)).trans ((hg.block k (Nat.lt_of_lt_of_le h3 h.sz) (fun e => by have := hl k e.symm; omega)).trans (h.agree k h1 h3))
    cx := by
      have := heap_setCell_same w'' X 2 _ _ vl' hcx
      simpa using this
    cr := (hne R hRX).trans ((hg.block R (blk_lt h.cr) (fun e => by have := hl R e.symm; omega)).trans h.cr)
    num := (h.num.kept hg (fun e => by have := hl B e.symm; omega)).kept (row := some X) ⟨rfl, rfl, rfl, by simp, fun k _ hk => hne k (fun e => hk (by rw [e]))⟩ (fun e => hX (Option.some.inj e).symm)
    row := Kd.R_mono (Kd.R_step (Kd.R_bound hR) (fun k hk hlt => hne k (by have := hk.2.1; omega))) (fun _ _ => trivial) }
theorem OfAt.perm {e : Nat} {ok : Nat → Prop} {v : Value} {p : List Int} (h : OfAt w w5 w2 X B R svs w' ve vo vl idx n f) (hp : Kd.R (Kd.int .i64) e w2 w5.heap.size ok v p) : PermAt w' v p :=
  PermAt.of_R (Kd.R_step (Kd.R_bound hp) (fun k hk hlt => h.agree k hk.2.1 hk.2.2.1))
theorem OfAt.rows {e : Nat} {ok : Nat → Prop} {A : Option Addr} {m c : Nat} {ls : List (List Int)} (h : OfAt w w5 w2 X B R svs w' ve vo vl idx n f) (hp : Kd.S (Kd.slice 3 (Kd.int .i64)) e w2 w5.heap.size ok (.slice A m c) ls) : m = ls.length ∧ m ≤ c ∧ Kd.C (Kd.slice 3 (Kd.int .i64)) w' A ls.length ls :=
  Kd.R_reads' (Kd.R_step (Kd.R_bound (Kd.S_R hp)) (fun k hk hlt => h.agree k hk.2.1 hk.2.2.1))
theorem OfAt.fin {wF : World} {A6 A7 Al : Option Addr} {c6 c7 cl : Nat} {els own : List (List Int)} (h : OfAt w w5 w2 X B R svs w' ve vo (.slice Al idx.length cl) idx n f) (hR5 : R < w5.heap.size) (hRB : R ≠ B) (hwR : w.heap.size ≤ R) (h52 : w5.heap.size ≤ w2.heap.size) (hg : w'.grownBy wF (some R))
    (S6 : Kd.S (Kd.slice 3 (Kd.int .i64)) 43 w2 w5.heap.size (fun _ => True) (.slice A6 els.length c6) els) (S7 : Kd.S (Kd.slice 3 (Kd.int .i64)) 43 w2 w5.heap.size (fun _ => True) (.slice A7 own.length c7) own) (hlen : svs.length = els.length)
    (hper : ∀ (i : Nat) (sv : Sv) (p : List Int), svs[i]? = some sv → els[i]? = some p → ∃ ok, Kd.R (Kd.int .i64) 3 w2 w5.heap.size ok (svE sv) p) (hix : ∀ j ∈ idx, j < els.length) :
    Cos wF (.agg #[.slice A6 els.length c6, .slice A7 own.length c7, .slice Al idx.length cl, .map (some B)]) ⟨els, own, idx.map fun j => els.getD j [], f⟩ ∧ Below w.heap.size w wF := by
  have mv : ∀ k, w5.heap.size ≤ k → k < w2.heap.size → wF.heap[k]? = w2.heap[k]? := fun k h1 h2 => (hg.block k (Nat.lt_of_lt_of_le h2 h.sz) (fun e => by have := Option.some.inj e; omega)).trans (h.agree k h1 h2)
  have r6 := Kd.R_reads' (Kd.R_step (Kd.R_bound (Kd.S_R S6)) (fun k hk hlt => mv k hk.2.1 hk.2.2.1))
  have r7 := Kd.R_reads' (Kd.R_step (Kd.R_bound (Kd.S_R S7)) (fun k hk hlt => mv k hk.2.1 hk.2.2.1))
  have rl : Kd.R kv 43 wF w2.heap.size (fun _ => True) (.slice Al idx.length cl) (idx.map fun i => svs.getD i (none, 0, 0)) := Kd.R_mono (Kd.R_grown (Kd.R_bound h.row) hg (fun k hk e => by have := Option.some.inj e; have := hk.2.1; omega)) (fun _ _ => trivial)
  have cl' := C_of_kv (ls := idx.map fun j => els.getD j []) rl (by rw [List.length_map, List.length_map]) (fun j sv p e1 e2 => by
    rw [List.getElem?_map] at e1 e2
    obtain ⟨i, hi, e3⟩ := Option.map_eq_some_iff.1 e1
    rw [hi] at e2
    obtain rfl := Option.some.inj e2
    have hil := hix i (List.mem_of_getElem? hi)
    subst e3
    obtain ⟨ok, hp⟩ := hper i (svs.getD i (none, 0, 0)) (els.getD i []) (by rw [List.getD_eq_getElem?_getD, List.getElem?_eq_getElem (by omega)]; rfl) (by rw [List.getD_eq_getElem?_getD, List.getElem?_eq_getElem hil]; rfl)
    exact PermAt.of_R (Kd.R_step (Kd.R_bound hp) (fun k hk hlt => mv k hk.2.1 hk.2.2.1)))
  refine ⟨⟨A6, c6, A7, c7, Al, cl, B, n, ?_, ⟨r6.2.1, r6.2.2⟩, ⟨r7.2.1, r7.2.2⟩, ⟨?_, cl'⟩, h.num.kept hg (fun e => hRB (Option.some.inj e).symm)⟩, pw_below_grown h.bel (some R) h.bel.size hg (fun k e => by obtain rfl := Option.some.inj e; exact hwR)⟩
  · rw [List.length_map]
  · rw [List.length_map]; exact (Kd.R_reads' rl).2.1
end
set_option maxHeartbeats 16000000 in
set_option maxRecDepth 100000 in
theorem cosetsOf_any (k : Nat) (a0 : Int) (A0 : Option Addr) (c0 : Nat) (l0 : List (List Int)) (a1 : Int) (A1 : Option Addr) (c1 : Nat) (l1 : List (List Int)) (C : CosV) (w : World) (hr0 : Kd.C (Kd.slice 3 (Kd.int .i64)) w A0 l0.length l0) (hc0 : l0.length ≤ c0) (hr1 : Kd.C (Kd.slice 3 (Kd.int .i64)) w A1 l1.length l1) (hc1 : l1.length ≤ c1) (h : cosM k a0 l0 a1 l1 = some C) :
    Calls Try.prog 51 #[.agg #[.int .i64 a0, .slice A0 l0.length c0], .agg #[.int .i64 a1, .slice A1 l1.length c1]] w fun e w' => ∃ v, e = .returned v ∧ Cos w' v C ∧ Below w.heap.size w w' := by
  have hu := Try.underlying24
  have hu2 := Try.underlying81
  have hmm := @run_makeMap Try.prog
  have HG0 := Aside0.mk hr0
  have HC0 := Aside0.mk hc0
  have HG1 := Aside0.mk hr1
  have HC1 := Aside0.mk hc1
  unfold cosM at h
  replace h := Option.bind_eq_some_iff.1 h
  obtain ⟨⟨els, e1⟩, h1, h⟩ := h
  replace h := Option.bind_eq_some_iff.1 h
  obtain ⟨⟨own, e2⟩, h2, h⟩ := h
  have hs : els.length ≤ 6000 ∧ own.length ≤ 6000 := by
    by_cases e : els.length ≤ 6000 ∧ own.length ≤ 6000
    · exact e
    · rw [if_neg e] at h; cases h
  rw [if_pos hs] at h
  replace h := Option.bind_eq_some_iff.1 h
  obtain ⟨⟨least, num⟩, h3, h⟩ := h
  obtain rfl := Option.some.inj h
  have A1' := Aside0.mk h1
  have A2' := Aside0.mk h2
  have A3' := Aside0.mk h3
  have HS := Aside0.mk hs
  clear hr0 hc0 hr1 hc1 h h1 h2 h3 hs
  go_enter Try.func51, Try.ntmps51
  obtain ⟨w5, hw5⟩ : ∃ w5 : World, w5 = ((((w.alloc (.cells #[.int .i64 a0, .slice A0 l0.length c0] 24)).alloc (.cells #[.int .i64 a1, .slice A1 l1.length c1] 24)).alloc (.cells #[.slice none 0 0, .slice none 0 0, .slice none 0 0, .map none] 81)).alloc (.map #[] 0)).alloc (.cells #[.slice none 0 0, .slice none 0 0, .slice none 0 0, .map (some (w.heap.size + 1 + 1 + 1))] 81) := ⟨_, rfl⟩
  have s5 : w5.heap.size = w.heap.size + 1 + 1 + 1 + 1 + 1 := by rw [hw5]; simp
  have B5 : Below w.heap.size w w5 := by rw [hw5]; repeat (first | exact Below.refl _ _ | apply below_alloc)
  have hx5 : w5.heap[w.heap.size + 1 + 1 + 1 + 1]? = some (.cells #[.slice none 0 0, .slice none 0 0, .slice none 0 0, .map (some (w.heap.size + 1 + 1 + 1))] 81 (0, 0)) := by
    have := blk_new ((((w.alloc (.cells #[.int .i64 a0, .slice A0 l0.length c0] 24)).alloc (.cells #[.int .i64 a1, .slice A1 l1.length c1] 24)).alloc (.cells #[.slice none 0 0, .slice none 0 0, .slice none 0 0, .map none] 81)).alloc (.map #[] 0)) (.cells #[.slice none 0 0, .slice none 0 0, .slice none 0 0, .map (some (w.heap.size + 1 + 1 + 1))] 81)
    rw [← hw5] at this
    simpa using this
  have hr5 : w5.heap[w.heap.size + 1 + 1]? = some (.cells #[.slice none 0 0, .slice none 0 0, .slice none 0 0, .map none] 81 (0, 0)) := by
    have := ((below_alloc (below_alloc (Below.refl _ _) (.map #[] 0)) (.cells #[.slice none 0 0, .slice none 0 0, .slice none 0 0, .map (some (w.heap.size + 1 + 1 + 1))] 81)).block _ (blk_lt (blk_new ((w.alloc (.cells #[.int .i64 a0, .slice A0 l0.length c0] 24)).alloc (.cells #[.int .i64 a1, .slice A1 l1.length c1] 24)) (.cells #[.slice none 0 0, .slice none 0 0, .slice none 0 0, .map none] 81)))).trans (blk_new _ _)
    rw [← hw5] at this
    simpa using this
  have hn5 : NumAt w5 (w.heap.size + 1 + 1 + 1) 0 (fun _ => none) := by
    have := (NumAt.made (((w.alloc (.cells #[.int .i64 a0, .slice A0 l0.length c0] 24)).alloc (.cells #[.int .i64 a1, .slice A1 l1.length c1] 24)).alloc (.cells #[.slice none 0 0, .slice none 0 0, .slice none 0 0, .map none] 81))).below (below_alloc (Below.refl _ _) (.cells #[.slice none 0 0, .slice none 0 0, .slice none 0 0, .map (some (w.heap.size + 1 + 1 + 1))] 81))
    rw [← hw5] at this
    simpa using this
  have hy5 : w5.cell? ⟨w.heap.size + 1, 0, none⟩ = some (.int .i64 a1) ∧ w5.cell? ⟨w.heap.size + 1, 1, none⟩ = some (.slice A1 l1.length c1) := by
    rw [hw5]; constructor <;> simp [World.cell?_alloc_at, World.cell?_alloc_past]
  obtain ⟨hya, hyb⟩ := hy5
  have HS5 := Aside0.mk s5
  have HB5 := Aside0.mk B5
  have HX5 := Aside0.mk hx5
  have HN5 := Aside0.mk hn5
  have HR5 := Aside0.mk hr5
  have HYA := Aside0.mk hya
  have HYB := Aside0.mk hyb
  have HG5 := Aside0.mk (Kd.C_below HG0.out B5)
  clear B5 hx5 hn5 hr5 hya hyb s5
  go_wp2_with (first
    | (go_at_call 78; rw [← hw5]; (refine (permgroup_Elements.calls k a0 A0 c0 l0 els e1 w5 HG5.out HC0.out A1'.out).mono ?_); rintro e w6 ⟨v6, rfl, hs6, hb6⟩; have HS6 := Aside0.mk hs6; have HB6 := Aside0.mk hb6; have HX6 := Aside0.mk ((hb6.block _ (by have := HS5.out; omega)).trans HX5.out); have hx6a : w6.cell? ⟨w.heap.size + 1 + 1 + 1 + 1, 0, none⟩ = some (.slice none 0 0) := blk_cell HX6.out 0; have hx6f : w6.frozen? ⟨w.heap.size + 1 + 1 + 1 + 1, 0, none⟩ = false := blk_frozen HX6.out 0; have hy6 := cell_move (w' := w6) HYA.out (fun hlt => hb6.block _ hlt); have hy7 := cell_move (w' := w6) HYB.out (fun hlt => hb6.block _ hlt); obtain ⟨A6, c6, e6⟩ := Kd.S_slice hs6; subst e6; clear hs6 hb6)
    | (go_at_call 78; (refine (permgroup_Elements.calls k a1 A1 c1 l1 own e2 _ (Kd.C_below HG1.out ((below_step HB5.out HB6.out).setCell (p := ⟨w.heap.size + 1 + 1 + 1 + 1, 0, none⟩) (by show w.heap.size ≤ w.heap.size + 1 + 1 + 1 + 1; omega) _)) HC1.out A2'.out).mono ?_); rintro e w7 ⟨v7, rfl, hs7, hb7⟩; have HB7 := Aside0.mk hb7; have HS7 := Aside0.mk hs7; have HX7 := Aside0.mk ((hb7.block _ (by rw [World.size_setCell]; exact blk_lt HX6.out)).trans (heap_setCell_same w6 (w.heap.size + 1 + 1 + 1 + 1) 0 _ _ (.slice A6 els.length c6) HX6.out)); obtain ⟨A7, c7, e7⟩ := Kd.S_slice hs7; subst e7; have hx7a : w7.cell? ⟨w.heap.size + 1 + 1 + 1 + 1, 1, none⟩ = some (.slice none 0 0) := blk_cell HX7.out 1; have hx7f : w7.frozen? ⟨w.heap.size + 1 + 1 + 1 + 1, 1, none⟩ = false := blk_frozen HX7.out 1; have hx7b : w7.cell? ⟨w.heap.size + 1 + 1 + 1 + 1, 0, none⟩ = some (.slice A6 els.length c6) := blk_cell HX7.out 0; clear hs7 hb7))
  obtain ⟨X, hX⟩ : ∃ X, X = w.heap.size + 1 + 1 + 1 + 1 := ⟨_, rfl⟩
  obtain ⟨B, hB⟩ : ∃ B, B = w.heap.size + 1 + 1 + 1 := ⟨_, rfl⟩
  obtain ⟨R, hR⟩ : ∃ R, R = w.heap.size + 1 + 1 := ⟨_, rfl⟩
  rw [← hX, ← hB] at HX5 HX6 HX7
  rw [← hR] at HR5
  rw [← hX] at HB7 HS7 hx6a hx6f hx7a hx7f hx7b ⊢
  rw [← hB] at HN5
  rw [← hR]
  have hXB : X ≠ B := by omega
  have hRX : R ≠ X := by omega
  have hRB : R ≠ B := by omega
  have hR5 : R < w5.heap.size := by have := HS5.out; omega
  have hX5 : X < w5.heap.size := by have := HS5.out; omega
  have hB5 : B < w5.heap.size := by have := HS5.out; omega
  have hwX : w.heap.size ≤ X := by omega
  have hwB : w.heap.size ≤ B := by omega
  obtain ⟨w2, hw2⟩ : ∃ w2, w2 = w7.setCell ⟨X, 1, none⟩ (.slice A7 own.length c7) := ⟨_, rfl⟩
  have z7 : (w6.setCell ⟨X, 0, none⟩ (.slice A6 els.length c6)).heap.size = w6.heap.size := World.size_setCell ..
  have z2 : w2.heap.size = w7.heap.size := by rw [hw2]; exact World.size_setCell ..
  have z56 := HB6.out.size
  have z67 := HB7.out.size
  rw [z7] at z67
  have n2 : ∀ k, k ≠ X → w2.heap[k]? = w7.heap[k]? := fun k hk => by rw [hw2]; exact Below.heap_setCell w7 ⟨X, 1, none⟩ _ k hk
  have n7 : ∀ k, k < w6.heap.size → k ≠ X → w7.heap[k]? = w6.heap[k]? := fun k hk hne => (HB7.out.block k (by rw [z7]; exact hk)).trans (Below.heap_setCell w6 ⟨X, 0, none⟩ _ k hne)
  have S6 : Kd.S (Kd.slice 3 (Kd.int .i64)) 43 w2 w5.heap.size (fun _ => True) (.slice A6 els.length c6) els := Kd.S_mono (Kd.S_step (Kd.S_bound HS6.out) (fun k hk hlt => (n2 k (by have := hk.2.1; omega)).trans (n7 k hlt (by have := hk.2.1; omega)))) (fun _ _ => trivial)
  have S7 : Kd.S (Kd.slice 3 (Kd.int .i64)) 43 w2 w5.heap.size (fun _ => True) (.slice A7 own.length c7) own := by
    have := HS7.out
    rw [z7] at this
    exact Kd.S_lower (Kd.S_mono (Kd.S_step (Kd.S_bound this) (fun k hk hlt => n2 k (by have := hk.2.1; omega))) (fun _ _ => trivial)) z56
  obtain ⟨fe, svs, hlen, hrow, _, hper⟩ := S_vals S6
  obtain ⟨fo, svo, hleno, hrowo, _, hpero⟩ := S_vals S7
  have hstart : OfAt w w5 w2 X B R svs w2 (.slice A6 els.length c6) (.slice A7 own.length c7) (.slice none 0 0) [] 0 (fun _ => none) := {
    bel := by
      rw [hw2]
      refine Below.setCell ?_ hwX _
      exact below_step ((below_step HB5.out HB6.out).setCell (p := ⟨X, 0, none⟩) hwX (.slice A6 els.length c6)) HB7.out
    sz := Nat.le_refl _
    agree := fun _ _ _ => rfl
    cx := by
      rw [hw2]
      have := heap_setCell_same w7 X 1 _ _ (.slice A7 own.length c7) HX7.out
      simpa using this
    cr := by
      rw [hw2]
      exact (Below.heap_setCell w7 ⟨X, 1, none⟩ _ R hRX).trans ((HB7.out.block R (by rw [z7]; omega)).trans ((Below.heap_setCell w6 ⟨X, 0, none⟩ _ R hRX).trans ((HB6.out.block R hR5).trans HR5.out)))
    num := by
      have h6 := HN5.out.below HB6.out
      have h6' : NumAt (w6.setCell ⟨X, 0, none⟩ (.slice A6 els.length c6)) B 0 (fun _ => none) := h6.kept (row := some X) ⟨rfl, rfl, rfl, by simp, fun k _ hk => Below.heap_setCell w6 ⟨X, 0, none⟩ _ k (fun e => hk (by rw [e]))⟩ (fun e => hXB (Option.some.inj e).symm)
      have h7 := h6'.below HB7.out
      rw [hw2]
      exact h7.kept (row := some X) ⟨rfl, rfl, rfl, by simp, fun k _ hk => Below.heap_setCell w7 ⟨X, 1, none⟩ _ k (fun e => hk (by rw [e]))⟩ (fun e => hXB (Option.some.inj e).symm)
    row := Kd.R_nil _ _ _ _ _ }
  have HO0 := Aside0.mk hstart
  have HROW := Aside0.mk hrow
  have HPER := Aside0.mk hper
  have HLEN := Aside0.mk hlen
  have HROWO := Aside0.mk hrowo
  have HPERO := Aside0.mk hpero
  have HLENO := Aside0.mk hleno
  have HS7w := Aside0.mk S7
  have HS6w := Aside0.mk S6
  have Z52 : Aside0 (w5.heap.size ≤ w2.heap.size) := ⟨by omega⟩
  have ZW2 : Aside0 (w.heap.size ≤ w2.heap.size) := ⟨by have := HS5.out; omega⟩
  have HXB := Aside0.mk hXB
  have HRX := Aside0.mk hRX
  have HRB := Aside0.mk hRB
  have HR5' := Aside0.mk hR5
  have HWR : Aside0 (w.heap.size ≤ R) := ⟨by omega⟩
  have HX5' := Aside0.mk hX5
  have HB5' := Aside0.mk hB5
  have HWX := Aside0.mk hwX
  have HWB := Aside0.mk hwB
  rw [← hw2]
  clear hRX hRB hR5 HR5 hstart hrow hper hlen hrowo hpero hleno S6 S7 n2 n7 z7 z2 z56 z67 hX5 hB5 hwX hwB hXB hX hB hR hw2 hw5 HS5 HB5 HX5 HN5 HYA HYB HG5 HS6 HB6 HX6 hx6a hx6f hy6 hy7 HB7 HS7 HX7 hx7a hx7f hx7b HG0 HC0 HG1 HC1 A1' A2'
  have hlk := hmm
  go_loopg [29] els.length (fun kq v29 w' => ∃ (i : Nat) (vl : Value) (idx : List Nat) (n : Nat) (f : ByteArray → Option Int), v29 = .int .i64 (i : Int) ∧ Aside0 (OfAt w w5 w2 X B R svs w' (.slice A6 els.length c6) (.slice A7 own.length c7) vl idx n f) ∧ Aside0 (cosL k own (els.drop i) (idx.map fun j => els.getD j []) f = some (least, num)) ∧ Aside0 (i + kq = els.length ∧ idx.length ≤ i ∧ n ≤ i * 6000) ∧ Aside0 (∀ j ∈ idx, j < els.length))
  case atStart => exact ⟨0, _, [], 0, _, (by first | rfl | (simp; done)), HO0, A3', ⟨by simp, by simp, by simp⟩, ⟨by simp⟩⟩
  case round =>
    clear HO0 A3'
    obtain ⟨i, vl, idx, n, f, rfl, HO, HA, HI, HIX⟩ := hrel
    have h := HA.out
    clear HA
    cases gk with
    | zero =>
      have hj : (i < els.length) = False := eq_false (by have := HI.out.1; omega)
      have hj2 : ((i : Int) < (els.length : Int)) = False := eq_false (by have := HI.out.1; omega)
      rw [List.drop_eq_nil_of_le (by have := HI.out.1; omega)] at h
      obtain ⟨rfl, rfl⟩ := Prod.mk.inj (Option.some.inj h)
      clear h
      obtain ⟨Al, cl, el⟩ := Kd.R_slice HO.out.row
      rw [List.length_map] at el
      subst el
      have hc0 : wr.cell? ⟨X, 0, none⟩ = some (.slice A6 els.length c6) := blk_cell HO.out.cx 0
      have hc1 : wr.cell? ⟨X, 1, none⟩ = some (.slice A7 own.length c7) := blk_cell HO.out.cx 1
      have hc2 : wr.cell? ⟨X, 2, none⟩ = some (.slice Al idx.length cl) := blk_cell HO.out.cx 2
      have hc3 : wr.cell? ⟨X, 3, none⟩ = some (.map (some B)) := blk_cell HO.out.cx 3
      have hd0 : wr.cell? ⟨R, 0, none⟩ = some (.slice none 0 0) := blk_cell HO.out.cr 0
      have hd1 : wr.cell? ⟨R, 1, none⟩ = some (.slice none 0 0) := blk_cell HO.out.cr 1
      have hd2 : wr.cell? ⟨R, 2, none⟩ = some (.slice none 0 0) := blk_cell HO.out.cr 2
      have hd3 : wr.cell? ⟨R, 3, none⟩ = some (.map none) := blk_cell HO.out.cr 3
      have hf0 : wr.frozen? ⟨R, 0, none⟩ = false := blk_frozen HO.out.cr 0
      have hf1 : wr.frozen? ⟨R, 1, none⟩ = false := blk_frozen HO.out.cr 1
      have hf2 : wr.frozen? ⟨R, 2, none⟩ = false := blk_frozen HO.out.cr 2
      have hf3 : wr.frozen? ⟨R, 3, none⟩ = false := blk_frozen HO.out.cr 3
      have hr1 := heap_setCell_same wr R 0 _ _ (.slice A6 els.length c6) HO.out.cr
      have hr2 := heap_setCell_same _ R 1 _ _ (.slice A7 own.length c7) hr1
      have hr3 := heap_setCell_same _ R 2 _ _ (.slice Al idx.length cl) hr2
      have hr4 := heap_setCell_same _ R 3 _ _ (.map (some B)) hr3
      have HR4 := Aside0.mk hr4
      have HG4 := Aside0.mk (grown_put (i := 3) (grown_put (i := 2) (grown_put (i := 1) (grown_put (i := 0) (World.grownBy.refl wr (some R)) (.inl rfl) (.slice A6 els.length c6)) (.inl rfl) (.slice A7 own.length c7)) (.inl rfl) (.slice Al idx.length cl)) (.inl rfl) (.map (some B)))
      clear hr1 hr2 hr3 hr4
      go_wp2
      refine bodyPost_ret (results_cell_row rfl _ _ R 81 _ (0, 0) _ rfl HR4.out Try.underlying81 rfl (by kernel_rfl)) rfl ?_
      obtain ⟨f1, f2⟩ := HO.out.fin HR5'.out HRB.out HWR.out Z52.out HG4.out HS6w.out HS7w.out HLEN.out (fun i sv p h1 h2 => ⟨_, HPER.out i sv p h1 h2⟩) HIX.out
      exact ⟨_, rfl, f1, f2⟩
    | succ m =>
      have hil : i < els.length := by have := HI.out.1; omega
      have hj : (i < els.length) = True := eq_true hil
      have hj2 : ((i : Int) < (els.length : Int)) = True := eq_true (by omega)
      have hj0 : (0 ≤ (i : Int)) = True := eq_true (by omega)
      have wi : wrap64 ((i : Int) + 1) = ((i + 1 : Nat) : Int) := (IntWalk.wrap64_in _ ⟨by omega, by have := HS.out.1; omega⟩).trans (by omega)
      have HIL := Aside0.mk hil
      rw [List.drop_eq_getElem_cons hil, cosL] at h
      have hsl : i < svs.length := by rw [HLEN.out]; exact hil
      have hpa := HO.out.perm (HPER.out i svs[i] els[i] (List.getElem?_eq_getElem hsl) (List.getElem?_eq_getElem hil))
      have hrw : Kd.R kv 43 wr w5.heap.size (fun k => True) (.slice A6 els.length c6) svs := Kd.R_mono (Kd.R_step (Kd.R_bound HROW.out) (fun k hk hlt => HO.out.agree k hk.2.1 hk.2.2.1)) (fun _ _ => trivial)
      obtain ⟨g6, cap6, e6, _, _, _, _⟩ := Kd.R_form hrw (by omega)
      injection e6 with e6a e6b e6c
      subst e6a; subst e6c
      clear e6b
      obtain ⟨hcell, _⟩ := kv_cell hrw i hil
      have esv : svs.getD i (none, 0, 0) = svs[i] := by rw [List.getD_eq_getElem?_getD, List.getElem?_eq_getElem hsl]; rfl
      have epv : els.getD i [] = els[i] := by rw [List.getD_eq_getElem?_getD, List.getElem?_eq_getElem hil]; rfl
      obtain ⟨sa, sc, es, hls, hCs⟩ := hpa
      rw [esv, es] at hcell
      obtain ⟨p, hp⟩ : ∃ p, els[i] = p := ⟨_, rfl⟩
      rw [hp] at hcell hls hCs h
      have hsv : svs[i] = (sa, p.length, sc) := by
        obtain ⟨⟨t1, t2, t3⟩, ht⟩ : ∃ t : Sv, svs[i] = t := ⟨_, rfl⟩
        rw [ht] at es ⊢
        injection es with q1 q2 q3
        rw [hp] at q2
        rw [← q1, ← q2, ← q3]
      replace h := Option.bind_eq_some_iff.1 h
      obtain ⟨s, h1, h⟩ := h
      have hss : s.size ≤ 1000 := by
        by_cases e : s.size ≤ 1000
        · exact e
        · rw [if_neg e] at h; cases h
      rw [if_pos hss] at h
      have HK1 := Aside0.mk h1
      have HSS := Aside0.mk hss
      have HP := Aside0.mk hp
      have HSV := Aside0.mk hsv
      have HCs := Aside0.mk hCs
      have HLs := Aside0.mk hls
      have hc3 : wr.cell? ⟨X, 3, none⟩ = some (.map (some B)) := blk_cell HO.out.cx 3
      clear h1 hss hrw esv epv es hls hCs hp hsv
      by_cases hb : (f s).isSome = true
      · rw [if_pos hb] at h
        have H := Aside0.mk h
        have HBB := Aside0.mk hb
        clear h hb
        go_wp2
        go_region_with (go_at_call 62; (refine (coset_key.calls k sa sc p s _ (Kd.C_below HCs.out bel0) HLs.out HK1.out).mono ?_); rintro e w8 ⟨rfl, hb8⟩; have HB8 := Aside0.mk (below_step (w := wr) bel0 hb8); have HO8 := Aside0.mk (HO.out.below HB8.out); have hl8 := HO8.out.num.look_ok HSS.out; rw [HBB.out] at hl8; have hc8 : w8.cell? ⟨X, 3, none⟩ = some (.map (some B)) := blk_cell HO8.out.cx 3; clear hb8)
        all_goals
          go_wp2
          go_roundg m
          case measure => exact Nat.lt_succ_self _
          case rel => exact ⟨i + 1, vl, idx, n, f, (by first | (rw [wi]; done) | rfl), HO8, H, ⟨by have := HI.out; omega⟩, HIX⟩
      · rw [if_neg hb] at h
        have HBB : Aside0 ((f s).isSome = false) := ⟨by simpa using hb⟩
        have hnone : f s = none := by cases e : f s with | none => rfl | some v => rw [e] at hb; exact absurd rfl hb
        replace h := Option.bind_eq_some_iff.1 h
        obtain ⟨f', h2, h⟩ := h
        have HST := Aside0.mk h2
        have H := Aside0.mk h
        clear h h2 hb
        go_wp2
        go_cut [9] (fun v9 wx => v9 = .bool false ∧ Aside0 (OfAt w w5 w2 X B R svs wx (.slice (some ⟨g6, 0, none⟩) els.length c6) (.slice A7 own.length c7) vl idx n f))
        case first =>
          go_region_with (go_at_call 62; (refine (coset_key.calls k sa sc p s _ (Kd.C_below HCs.out bel0) HLs.out HK1.out).mono ?_); rintro e w8 ⟨rfl, hb8⟩; have HB8 := Aside0.mk (below_step (w := wr) bel0 hb8); have HO8 := Aside0.mk (HO.out.below HB8.out); have hl8 := HO8.out.num.look_ok HSS.out; rw [HBB.out] at hl8; have hc8 : w8.cell? ⟨X, 3, none⟩ = some (.map (some B)) := blk_cell HO8.out.cx 3; clear hb8)
          all_goals
            go_wp2_with fail
            go_meet
            exact ⟨rfl, HO8⟩
        case rest =>
          obtain ⟨rfl, HO8⟩ := hcut
          have hc81 : wc.cell? ⟨X, 1, none⟩ = some (.slice A7 own.length c7) := blk_cell HO8.out.cx 1
          have HST8 := HST
          rw [List.length_map] at HST8
          have HIN : Aside0 (idx.length ≤ i) := ⟨HI.out.2.1⟩
          go_wp2
          go_loopg [45] own.length (fun gq v45 w' => ∃ (j n' : Nat) (f1 : ByteArray → Option Int), v45 = .int .i64 (j : Int) ∧ Aside0 (OfAt w w5 w2 X B R svs w' (.slice (some ⟨g6, 0, none⟩) els.length c6) (.slice A7 own.length c7) vl idx n' f1) ∧ Aside0 (storeL k p (idx.length : Int) (own.drop j) f1 = some f') ∧ Aside0 (j + gq = own.length ∧ n' ≤ n + j))
          case atStart => exact ⟨0, n, f, (by first | rfl | (simp; done)), HO8, HST8, ⟨by simp⟩⟩
          case round =>
            clear HO8 HST8 hc81
            obtain ⟨j, n', f1, rfl, HOj, HAj, HJ⟩ := hrel
            have h := HAj.out
            clear HAj
            cases gk with
            | zero =>
              have gj : (j < own.length) = False := eq_false (by have := HJ.out.1; omega)
              have gj2 : ((j : Int) < (own.length : Int)) = False := eq_false (by have := HJ.out.1; omega)
              rw [List.drop_eq_nil_of_le (by have := HJ.out.1; omega)] at h
              obtain rfl := Option.some.inj h
              clear h
              obtain ⟨Al, cl, el⟩ := Kd.R_slice HOj.out.row
              rw [List.length_map] at el
              subst el
              have hc2 : wr.cell? ⟨X, 2, none⟩ = some (.slice Al idx.length cl) := blk_cell HOj.out.cx 2
              have hf2 : wr.frozen? ⟨X, 2, none⟩ = false := blk_frozen HOj.out.cx 2
              have hfi : (fun q => svs.getD q (none, 0, 0)) i = ((sa, p.length, sc) : Sv) := by show svs.getD i (none, 0, 0) = _; rw [List.getD_eq_getElem?_getD, List.getElem?_eq_getElem (by rw [HLEN.out]; exact HIL.out), HSV.out]; rfl
              have hpi : (fun q => els.getD q []) i = p := by show els.getD i [] = p; rw [List.getD_eq_getElem?_getD, List.getElem?_eq_getElem HIL.out, HP.out]; rfl
              have HFI := Aside0.mk hfi
              have h := H.out
              have ep : (idx.map fun q => els.getD q []) ++ [p] = (idx ++ [i]).map fun q => els.getD q [] := by rw [List.map_append]; show _ = _ ++ [(fun q => els.getD q []) i]; rw [hpi]
              rw [ep] at h
              have H3 := Aside0.mk h
              clear h hfi hpi ep
              go_wp2_with ((with_reducible refine gate_builtin (b := .append) (xs := #[.tmp 60, .tmp 62]) rfl ?_); at_builtin; refine Kd.R_append kv (w0 := wr) (W := wr) w2.heap.size rfl (.tmp 60) (.tmp 62) 22 43 (.slice none 0 0) 24 rfl Try.underlying22 perm_info rfl (by decide) (by omega) (.slice Al idx.length cl) (idx.map fun i => svs.getD i (none, 0, 0)) ((sa, p.length, sc) : Sv) [.slice sa p.length sc] (fun _ => True) (fun _ => False) rfl rfl ?aP (fun _ hk => hk.elim) ?aF ?aO ?aB ?aS ?aL ?_; (case aP => rfl); (case aF => exact fun _ _ => trivial); (case aO => exact HOj.out.row); (case aB => exact Below.refl _ _); (case aS => exact HOj.out.sz); (case aL => have := HIN.out; have := HIL.out; have := HS.out.1; rw [List.length_map]; omega); intro v3 w3 ho3 hb3 hg3 hat3; rw [show (idx.map fun i => svs.getD i (none, 0, 0)) ++ [((sa, p.length, sc) : Sv)] = (idx ++ [i]).map fun i => svs.getD i (none, 0, 0) from by rw [List.map_append, ← HFI.out]; rfl] at ho3; obtain ⟨A13, c13, e13⟩ := Kd.R_slice ho3; rw [List.length_map, List.length_append, List.length_singleton] at e13; subst e13; have HO12 := Aside0.mk (HOj.out.push HXB.out HRX.out HR5'.out HX5'.out HB5'.out Z52.out HWX.out ZW2.out ho3 hg3); have HXX := Aside0.mk ((hg3.block X (blk_lt HOj.out.cx) (fun e => by have h1 := Kd.R_base HOj.out.row X e.symm; have h2 := HX5'.out; have h3 := Z52.out; omega)).trans HOj.out.cx); have hk2 : w3.cell? ⟨X, 2, none⟩ = some (.slice Al idx.length cl) := blk_cell HXX.out 2; have hkf : w3.frozen? ⟨X, 2, none⟩ = false := blk_frozen HXX.out 2; clear ho3 hb3 hg3 hat3)
              go_roundg m
              case measure => exact Nat.lt_succ_self _
              case rel => exact ⟨i + 1, _, idx ++ [i], n', _, (by first | (rw [wi]; done) | rfl), HO12, H3, ⟨by have h1 := HI.out; have h2 := HJ.out; have h3 := HS.out; refine ⟨by omega, by rw [List.length_append, List.length_singleton]; omega, by omega⟩⟩, ⟨fun q hq => by
                rcases List.mem_append.1 hq with hq | hq
                · exact HIX.out q hq
                · rw [List.mem_singleton] at hq; subst hq; exact HIL.out⟩⟩
            | succ m2 =>
              have hjl : j < own.length := by have := HJ.out.1; omega
              have gj : (j < own.length) = True := eq_true hjl
              have gj2 : ((j : Int) < (own.length : Int)) = True := eq_true (by omega)
              have gj0 : (0 ≤ (j : Int)) = True := eq_true (by omega)
              have wj : wrap64 ((j : Int) + 1) = ((j + 1 : Nat) : Int) := (IntWalk.wrap64_in _ ⟨by omega, by have := HS.out.2; omega⟩).trans (by omega)
              have hso : j < svo.length := by rw [HLENO.out]; exact hjl
              have hpx := HOj.out.perm (HPERO.out j svo[j] own[j] (List.getElem?_eq_getElem hso) (List.getElem?_eq_getElem hjl))
              have hro : Kd.R kv 43 wr w5.heap.size (fun k => True) (.slice A7 own.length c7) svo := Kd.R_mono (Kd.R_step (Kd.R_bound HROWO.out) (fun k hk hlt => HOj.out.agree k hk.2.1 hk.2.2.1)) (fun _ _ => trivial)
              obtain ⟨g7, cap7, e7, _, _, _, _⟩ := Kd.R_form hro (by omega)
              injection e7 with e7a e7b e7c
              subst e7a; subst e7c
              clear e7b
              obtain ⟨hcelo, _⟩ := kv_cell hro j hjl
              have esv : svo.getD j (none, 0, 0) = svo[j] := by rw [List.getD_eq_getElem?_getD, List.getElem?_eq_getElem hso]; rfl
              obtain ⟨xa, xc, ex, hlx, hCx⟩ := hpx
              rw [esv, ex] at hcelo
              rw [List.drop_eq_getElem_cons hjl, storeL] at h
              obtain ⟨x, hx⟩ : ∃ x, own[j] = x := ⟨_, rfl⟩
              rw [hx] at hcelo hlx hCx h
              replace h := Option.bind_eq_some_iff.1 h
              obtain ⟨y, h1, h⟩ := h
              replace h := Option.bind_eq_some_iff.1 h
              obtain ⟨t, h2, h⟩ := h
              have hts : t.size ≤ 1000 := by
                by_cases e : t.size ≤ 1000
                · exact e
                · rw [if_neg e] at h; cases h
              rw [if_pos hts] at h
              obtain ⟨pa, pc, ep, hlp, hCp⟩ := HOj.out.perm (HPER.out i (sa, p.length, sc) p (by rw [List.getElem?_eq_getElem (by rw [HLEN.out]; exact HIL.out), HSV.out]) (by rw [List.getElem?_eq_getElem HIL.out, HP.out]))
              injection ep with ep1 ep2 ep3
              subst ep1; subst ep3
              have HMU := Aside0.mk h1
              have HKE := Aside0.mk h2
              have HTS := Aside0.mk hts
              have H2 := Aside0.mk h
              have HCx := Aside0.mk hCx
              have HLx := Aside0.mk hlx
              have HCp := Aside0.mk hCp
              have HLp := Aside0.mk hlp
              have HJL := Aside0.mk hjl
              have HN9 : Aside0 (n' < 1000000000) := ⟨by have h1 := HI.out.2.2; have h2 := HJ.out.2; have h3 := HS.out; have h4 := HIL.out; omega⟩
              have HWF : Aside0 ((Lit.int .i64 (idx.length : Int)).wf = true) := ⟨WalkArith.wf_i64 (by have := HIN.out; have := HIL.out; have := HS.out.1; omega)⟩
              obtain ⟨Al, cl, el⟩ := Kd.R_slice HOj.out.row
              rw [List.length_map] at el
              subst el
              have hc3 : wr.cell? ⟨X, 3, none⟩ = some (.map (some B)) := blk_cell HOj.out.cx 3
              have hc2 : wr.cell? ⟨X, 2, none⟩ = some (.slice Al idx.length cl) := blk_cell HOj.out.cx 2
              clear h h1 h2 hts hro esv ex hlx hCx hx hlp hCp ep2 hjl hso
              go_wp2
              go_region_with (first
                | (go_at_call 54; (refine (coset_mul.calls k xa xc x sa sc p y _ (Kd.C_below HCx.out bel0) HLx.out (Kd.C_below HCp.out bel0) HLp.out HMU.out).mono ?_); rintro e w9 ⟨v9, rfl, hr9, hb9⟩; have HB9 := Aside0.mk (below_step (w := wr) bel0 hb9); have HO9 := Aside0.mk (HOj.out.below HB9.out); obtain ⟨A9, c9, e9⟩ := Kd.R_slice hr9; subst e9; have HR9 := Aside0.mk hr9; have hd3 : w9.cell? ⟨X, 3, none⟩ = some (.map (some B)) := blk_cell HO9.out.cx 3; have hd2 : w9.cell? ⟨X, 2, none⟩ = some (.slice Al idx.length cl) := blk_cell HO9.out.cx 2; clear hr9 hb9)
                | (go_at_call 62; (refine (coset_key.calls k A9 c9 y t _ (Kd.C_below (Kd.R_reads' HR9.out).2.2 bel0) (Kd.R_reads' HR9.out).2.1 HKE.out).mono ?_); rintro e w10 ⟨rfl, hb10⟩; have HB10 := Aside0.mk (below_step (w := w9) bel0 hb10); have HO10 := Aside0.mk (HO9.out.below HB10.out); obtain ⟨w11, hst11, hn11, hg11⟩ := HO10.out.num.store HN9.out HTS.out HWF.out; have HO11 := Aside0.mk (HO10.out.put HXB.out HRB.out HB5'.out Z52.out HWB.out hn11 hg11); have he3 : w10.cell? ⟨X, 3, none⟩ = some (.map (some B)) := blk_cell HO10.out.cx 3; have he2 : w10.cell? ⟨X, 2, none⟩ = some (.slice Al idx.length cl) := blk_cell HO10.out.cx 2; clear hb10 hn11 hg11))
              all_goals
                go_wp2
                go_roundg m2
                case measure => exact Nat.lt_succ_self _
                case rel => exact ⟨j + 1, n' + 1, _, (by first | (rw [wj]; done) | rfl), HO11, H2, ⟨by have := HJ.out; omega⟩⟩
end Go.Proofs.Ytaaaljifclecnaa.Bs
end
section
/- The walk of coset.check. -/
namespace Go.Proofs.Ytaaaljifclecnaa.Bs
open Go.RowKit Go.Maps Go.Proofs.YtaaaljifclecnaaW.PrintWords Go.Proofs.YtaaaljifclecnaaW.PrintLast Go.Proofs.YtaaaljifclecnaaW.PrintMore Go.Proofs.Ytaaaljifclecnaa.Plain Go.Proofs.Ytaaaljifclecnaa.PBs
open Go.Proofs.Ytaaaljifclecnaa.PCo (permgroup_IsSubgroup.f permgroup_IsSubgroup.mono permgroup_IsSubgroup.calls)
abbrev kg : Kd (Int × Sv) := Kd.pair (Kd.int .i64) kv
abbrev Grp := Int × List (List Int)
def GensAt (w : World) (sv : Sv) (L : List (List Int)) : Prop := sv.2.1 = L.length ∧ L.length ≤ sv.2.2 ∧ Kd.C (Kd.slice 3 (Kd.int .i64)) w sv.1 L.length L
theorem GensAt.below {w w' : World} {sv : Sv} {L : List (List Int)} (h : GensAt w sv L) (hb : Below w.heap.size w w') : GensAt w' sv L := ⟨h.1, h.2.1, Kd.C_below h.2.2 hb⟩
structure GrpsAt (w : World) (A : Option Addr) (rows : List (Int × Sv)) (gs : List Grp) : Prop where
  len : rows.length = gs.length
  row : Kd.C kg w A rows.length rows
  each : ∀ (j : Nat) (r : Int × Sv) (g : Grp), rows[j]? = some r → gs[j]? = some g → r.1 = g.1 ∧ GensAt w r.2 g.2
theorem GrpsAt.below {w w' : World} {A : Option Addr} {rows : List (Int × Sv)} {gs : List Grp} (h : GrpsAt w A rows gs) (hb : Below w.heap.size w w') : GrpsAt w' A rows gs :=
  ⟨h.len, Kd.C_below h.row hb, fun j r g h1 h2 => ⟨(h.each j r g h1 h2).1, (h.each j r g h1 h2).2.below hb⟩⟩
theorem GrpsAt.nil (w : World) (A : Option Addr) : GrpsAt w A [] [] := ⟨rfl, ⟨rfl, by decide, fun h => absurd h (by simp)⟩, fun j r g h => by simp at h⟩
theorem GrpsAt.cells {w : World} {A : Option Addr} {rows : List (Int × Sv)} {gs : List Grp} (h : GrpsAt w A rows gs) {j : Nat} (hj : j < gs.length) : ∃ (ad : Addr) (Aj : Option Addr) (cj : Nat), A = some ad ∧ w.cell? (ad.add (j * 2 + 0)) = some (.int .i64 gs[j].1) ∧ w.cell? (ad.add (j * 2 + 1)) = some (.slice Aj gs[j].2.length cj) ∧ GensAt w (Aj, gs[j].2.length, cj) gs[j].2 := by
  have hr : j < rows.length := by rw [h.len]; exact hj
  obtain ⟨_, _, h3⟩ := h.row
  obtain ⟨ad, eA, hc⟩ := h3 (by omega)
  obtain ⟨cs, hcl, hK, hcc⟩ := hc j rows[j] (List.getElem?_eq_getElem hr)
  obtain ⟨c0, c1, rfl, h0, h1⟩ := hK
  have h0 : c0 = [.int .i64 rows[j].1] := h0
  have h1 : c1 = [svE rows[j].2] := h1
  subst h0; subst h1
  obtain ⟨e1, e2⟩ := h.each j rows[j] gs[j] (List.getElem?_eq_getElem hr) (List.getElem?_eq_getElem hj)
  refine ⟨ad, rows[j].2.1, rows[j].2.2.2, eA, ?_, ?_, ?_⟩
  · rw [← e1]; exact hcc 0 _ rfl
  · rw [← e2.1]; exact hcc 1 _ rfl
  · exact ⟨rfl, e2.2⟩
theorem GrpsAt.cells0 {w : World} {g : Nat} {rows : List (Int × Sv)} {gs : List Grp} (h : GrpsAt w (some ⟨g, 0, none⟩) rows gs) {j : Nat} (hj : j < gs.length) : ∃ (Aj : Option Addr) (cj : Nat), w.cell? ⟨g, j * 2, none⟩ = some (.int .i64 gs[j].1) ∧ w.cell? ⟨g, j * 2 + 1, none⟩ = some (.slice Aj gs[j].2.length cj) ∧ GensAt w (Aj, gs[j].2.length, cj) gs[j].2 := by
  obtain ⟨ad, Aj, cj, e, h1, h2, h3⟩ := h.cells hj
  obtain rfl := Option.some.inj e
  refine ⟨Aj, cj, ?_, ?_, h3⟩
  · have : (⟨g, 0, none⟩ : Addr).add (j * 2 + 0) = ⟨g, j * 2, none⟩ := by simp [Addr.add]; try (intro h; exact h.symm)
    rw [← this]; exact h1
  · have : (⟨g, 0, none⟩ : Addr).add (j * 2 + 1) = ⟨g, j * 2 + 1, none⟩ := by simp [Addr.add]
    rw [← this]; exact h2
def chk1 (k : Nat) : List Grp → Option Int
  | [] => some 0
  | g :: r => (permgroup_Check.f k g.1 g.2).bind fun e => if e = 0 then chk1 k r else some e
def chk3 (k : Nat) (n : Int) : List (List Int) → Option Int
  | [] => some 0
  | p :: r => (perm_Check.f k p).bind fun e => if e = 0 then (if (p.length : Int) = n then chk3 k n r else some 2) else some e
def chk5 (k : Nat) (g : Grp) : List Grp → Option Int
  | [] => some 0
  | h :: r => (permgroup_IsSubgroup.f k h.1 h.2 g.1 g.2).bind fun t => if t.2 = 0 then (if t.1 = true then chk5 k g r else some 15) else some 15
def checkM (k : Nat) (g : Grp) (subs : List Grp) (perms : List (List Int)) : Option Int := (chk1 k (g :: subs)).bind fun e => if e = 0 then (if (subs.all fun h => decide (h.1 = g.1)) = true then (chk3 k g.1 perms).bind fun e3 => if e3 = 0 then ((permgroup_Order.f k g.1 g.2).bind fun t => if t.2 = 0 then (if t.1 ≤ 5040 then chk5 k g subs else some 5) else some 5) else some e3 else some 2) else some e
theorem chk1_mono (k : Nat) : ∀ l, LeO (chk1 k l) (chk1 (k + 1) l)
  | [] => LeO.refl _
  | g :: r => LeO.bind (permgroup_Check.mono _ _ _) (fun e => LeO.ite (chk1_mono k r) (LeO.refl _))
theorem chk3_mono (k : Nat) (n : Int) : ∀ l, LeO (chk3 k n l) (chk3 (k + 1) n l)
  | [] => LeO.refl _
  | p :: r => LeO.bind (perm_Check.mono _ _) (fun e => LeO.ite (LeO.ite (chk3_mono k n r) (LeO.refl _)) (LeO.refl _))
theorem chk5_mono (k : Nat) (g : Grp) : ∀ l, LeO (chk5 k g l) (chk5 (k + 1) g l)
  | [] => LeO.refl _
  | h :: r => LeO.bind (permgroup_IsSubgroup.mono _ _ _ _ _) (fun t => LeO.ite (LeO.ite (chk5_mono k g r) (LeO.refl _)) (LeO.refl _))
theorem checkM_mono (k : Nat) (g : Grp) (subs : List Grp) (perms : List (List Int)) : LeO (checkM k g subs perms) (checkM (k + 1) g subs perms) :=
  LeO.bind (chk1_mono k _) (fun e => LeO.ite (LeO.ite (LeO.bind (chk3_mono k _ _) (fun e3 => LeO.ite (LeO.bind (permgroup_Order.mono _ _ _) (fun t => LeO.ite (LeO.ite (chk5_mono k g subs) (LeO.refl _)) (LeO.refl _))) (LeO.refl _))) (LeO.refl _)) (LeO.refl _))
theorem lit_kg (W : World) (base : Nat) (x : Int × Sv) (hb : base ≤ W.heap.size) : Kd.R kg 24 (W.alloc (.cells #[.int .i64 x.1, svE x.2] 24)) base (fun b => b = W.heap.size) (.slice (some ⟨W.heap.size, 0, none⟩) 1 1) [x] := by
  refine ⟨fun k hk => ?_, ?_⟩
  · have : W.heap.size = k := by simpa [Value.ownBlock] using hk
    exact this.symm
  · exact OwnRow.lit (ps := [x]) (inner := [.int .i64 x.1, svE x.2]) W base ⟨rfl, fun j p hj => by
      cases j with
      | zero => simp at hj; subst hj; exact ⟨[.int .i64 x.1], [svE x.2], rfl, rfl, rfl⟩
      | succ j => simp at hj⟩ hb (by simp)
theorem kg_info : (Try.prog.info? 24).map (fun i => (i.zero, i.size, i.bytes)) = some (some (.agg #[.int .i64 0, .slice none 0 0]), 2, 32) := by kernel_rfl
theorem GrpsAt.of_R {e base : Nat} {w : World} {ok : Nat → Prop} {A : Option Addr} {m c : Nat} {rows : List (Int × Sv)} {gs : List Grp} (h : Kd.R kg e w base ok (.slice A m c) rows) (hl : rows.length = gs.length) (he : ∀ (j : Nat) (r : Int × Sv) (g : Grp), rows[j]? = some r → gs[j]? = some g → r.1 = g.1 ∧ GensAt w r.2 g.2) : GrpsAt w A rows gs :=
  ⟨hl, (Kd.R_reads' h).2.2, he⟩
theorem below_w {w w' : World} {B : Nat} (h : Below B w w') : Below B w w' := ⟨h.os, h.tape, h.output, h.size, h.block⟩
set_option maxHeartbeats 16000000 in
set_option maxRecDepth 100000 in
theorem check_any (k : Nat) (g : Grp) (subs : List Grp) (perms : List (List Int)) (r : Int) {w : World} {A0 : Option Addr} {c0 : Nat} {A1 : Option Addr} {c1 : Nat} {A2 : Option Addr} {c2 : Nat} {rows : List (Int × Sv)} (hg : GensAt w (A0, g.2.length, c0) g.2) (hs : GrpsAt w A1 rows subs) (hA1 : rows = [] ∨ ∃ g1, A1 = some ⟨g1, 0, none⟩) (hc1 : rows.length ≤ c1) (hsm : rows.length < 1000) (hpm : perms.length < 1000) (hp : Kd.C (Kd.slice 3 (Kd.int .i64)) w A2 perms.length perms) (hc2 : perms.length ≤ c2) (h : checkM k g subs perms = some r) :
    Calls Try.prog 49 #[.agg #[.int .i64 g.1, .slice A0 g.2.length c0], .slice A1 rows.length c1, .slice A2 perms.length c2] w fun e w' => e = .returned (.int .i64 r) ∧ Below w.heap.size w w' := by
  obtain ⟨n, L⟩ := g
  have hu := Try.underlying24
  have HG := Aside0.mk hg
  have HS := Aside0.mk hs
  have HA1 := Aside0.mk hA1
  have HC1 := Aside0.mk hc1
  have HSM := Aside0.mk hsm
  have HPM := Aside0.mk hpm
  have HP := Aside0.mk hp
  have HC2 := Aside0.mk hc2
  clear hg hs hA1 hc1 hsm hpm hp hc2
  go_enter Try.func49, Try.ntmps49
  have hl0 := lit_kg (w.alloc (.cells #[.int .i64 n, .slice A0 L.length c0] 24)) w.heap.size (n, (A0, L.length, c0)) (by simp)
  have hs1 : (w.alloc (.cells #[.int .i64 n, .slice A0 L.length c0] 24)).heap.size = w.heap.size + 1 := by simp
  rw [hs1] at hl0
  have HL0 := Aside0.mk hl0
  have B2 : Below w.heap.size w ((w.alloc (.cells #[.int .i64 n, .slice A0 L.length c0] 24)).alloc (.cells #[.int .i64 n, svE (A0, L.length, c0)] 24)) := by repeat (first | exact Below.refl _ _ | apply below_alloc)
  have HB2 := Aside0.mk B2
  clear hl0 hs1 B2
  go_wp2_with (((with_reducible refine gate_builtin (b := .append) (xs := #[.tmp 23, .tmp 24]) rfl ?_); at_builtin; refine Kd.R_append_rows kg (Rr := fun x cs => kg.K ((w.alloc (.cells #[.int .i64 n, .slice A0 L.length c0] 24)).alloc (.cells #[.int .i64 n, svE (A0, L.length, c0)] 24)) x cs) (w0 := w) w.heap.size rfl (.tmp 23) (.tmp 24) 57 24 (.agg #[.int .i64 0, .slice none 0 0]) 32 rfl Try.underlying57 kg_info rfl (by decide) (by omega) (.slice (some ⟨w.heap.size + 1, 0, none⟩) 1 1) [(n, (A0, L.length, c0))] rows A1 rows.length c1 (fun _ => True) (fun _ => False) rfl rfl ?aO ?aR ?aM ?aK ?aF ?aB ?aS ?aL ?_; (case aO => exact Kd.R_mono HL0.out (fun _ _ => trivial)); (case aR => exact Kd.C_below HS.out.row HB2.out); (case aM => exact fun x cs h => h); (case aK => exact fun _ h => h.elim); (case aF => exact fun _ _ => trivial); (case aB => exact HB2.out); (case aS => exact HB2.out.size); (case aL => have := HSM.out; simp only [List.length_singleton]; omega); intro v3 w3 ho3 hb3 hg3 hn3; obtain ⟨g3, c3, e3, _, _, _, _⟩ := Kd.R_form ho3 (by simp); rw [List.singleton_append, List.length_cons] at e3; subst e3; have HO3 := Aside0.mk ho3; have HB3 := Aside0.mk hb3; have HGC : Aside0 (w3.heap[w.heap.size]? = some (.cells #[.int .i64 n, .slice A0 L.length c0] 24 (0, 0))) := ⟨(hg3.block w.heap.size (by simp; omega) (by simp [Value.ownBlock])).trans (((below_alloc (Below.refl _ _) _).block _ (blk_lt (blk_new w (.cells #[.int .i64 n, .slice A0 L.length c0] 24)))).trans (blk_new _ _))⟩; clear ho3 hb3 hg3 hn3))
  have HG3 : Aside0 (GrpsAt w3 (some ⟨g3, 0, none⟩) ((n, (A0, L.length, c0)) :: rows) ((n, L) :: subs)) := ⟨GrpsAt.of_R HO3.out (by rw [List.length_cons, List.length_cons, HS.out.len]) (fun j r g h1 h2 => by
    have hg3 := HG.out.below ⟨HB3.out.os, HB3.out.tape, HB3.out.output, HB3.out.size, HB3.out.block⟩
    cases j with
    | zero =>
      obtain rfl := Option.some.inj h1
      obtain rfl := Option.some.inj h2
      exact ⟨rfl, hg3⟩
    | succ j => exact ⟨(HS.out.each j r g h1 h2).1, (HS.out.each j r g h1 h2).2.below ⟨HB3.out.os, HB3.out.tape, HB3.out.output, HB3.out.size, HB3.out.block⟩⟩)⟩
  unfold checkM at h
  replace h := Option.bind_eq_some_iff.1 h
  obtain ⟨e1, h1, h⟩ := h
  have H1 := Aside0.mk h1
  have H := Aside0.mk h
  clear HO3 HL0 HB2 h h1
  go_loopg [28] (rows.length + 1) (fun kq v28 w' => ∃ (i : Nat), v28 = .int .i64 (i : Int) ∧ Aside0 (Below w3.heap.size w3 w') ∧ Aside0 (chk1 k (((n, L) :: subs).drop i) = some e1) ∧ Aside0 (i + kq = rows.length + 1))
  case atStart => exact ⟨0, (by first | rfl | (simp; done)), ⟨Below.refl _ _⟩, H1, ⟨by omega⟩⟩
  case round =>
    clear H1
    obtain ⟨i, rfl, HB, HA, HI⟩ := hrel
    have ha := HA.out
    clear HA
    have HLEN := Aside0.mk HS.out.len
    cases gk with
    | zero =>
      have hj : (i < rows.length + 1) = False := eq_false (by have := HI.out; omega)
      have hj2 : ((i : Int) < (rows.length : Int) + 1) = False := eq_false (by have := HI.out; omega)
      rw [List.drop_eq_nil_of_le (by rw [List.length_cons]; have := HI.out; have := HLEN.out; omega)] at ha
      obtain rfl : 0 = e1 := Option.some.inj ha
      have h := H.out
      rw [if_pos rfl] at h
      clear ha H
      obtain ⟨ball, hball⟩ : ∃ b, (subs.all fun h => decide (h.1 = n)) = b := ⟨_, rfl⟩
      have h : (if ball = true then (chk3 k n perms).bind fun e3 => if e3 = 0 then ((permgroup_Order.f k n L).bind fun t => if t.2 = 0 then (if t.1 ≤ 5040 then chk5 k (n, L) subs else some 5) else some 5) else some e3 else some 2) = some r := by rw [← hball]; exact h
      have H := Aside0.mk h
      have HBALL := Aside0.mk hball
      clear h hball
      go_wp2
      go_loopg [40] rows.length (fun kq v40 w' => ∃ (i : Nat), v40 = .int .i64 (i : Int) ∧ Aside0 (Below w3.heap.size w3 w') ∧ Aside0 (((subs.drop i).all fun h => decide (h.1 = n)) = ball) ∧ Aside0 (i + kq = rows.length))
      case atStart => exact ⟨0, (by first | rfl | (simp; done)), HB, HBALL, ⟨by omega⟩⟩
      case round =>
        clear HBALL HB hj hj2 HI
        obtain ⟨i, rfl, HB, HA, HI⟩ := hrel
        have ha := HA.out
        clear HA
        cases gk with
        | zero =>
          have hj : (i < rows.length) = False := eq_false (by have := HI.out; omega)
          have hj2 : ((i : Int) < (rows.length : Int)) = False := eq_false (by have := HI.out; omega)
          rw [List.drop_eq_nil_of_le (by have := HI.out; have := HLEN.out; omega)] at ha
          obtain rfl : true = ball := ha
          have h := H.out
          rw [if_pos rfl] at h
          clear H
          go_wp2
          replace h := Option.bind_eq_some_iff.1 h
          obtain ⟨e3, h3, h⟩ := h
          have H3 := Aside0.mk h3
          have H := Aside0.mk h
          clear h3 h hj hj2 HI
          go_loopg [52] perms.length (fun kq v52 w' => ∃ (i : Nat), v52 = .int .i64 (i : Int) ∧ Aside0 (Below w3.heap.size w3 w') ∧ Aside0 (chk3 k n (perms.drop i) = some e3) ∧ Aside0 (i + kq = perms.length))
          case atStart => exact ⟨0, (by first | rfl | (simp; done)), HB, H3, ⟨by omega⟩⟩
          case round =>
            clear H3 HB
            obtain ⟨i, rfl, HB, HA, HI⟩ := hrel
            have ha := HA.out
            clear HA
            cases gk with
            | zero =>
              have hj : (i < perms.length) = False := eq_false (by have := HI.out; omega)
              have hj2 : ((i : Int) < (perms.length : Int)) = False := eq_false (by have := HI.out; omega)
              rw [List.drop_eq_nil_of_le (by have := HI.out; omega)] at ha
              obtain rfl : 0 = e3 := Option.some.inj ha
              have h := H.out
              rw [if_pos rfl] at h
              have hgx : wr.cell? ⟨w.heap.size, 0, none⟩ = some (.int .i64 n) := cell_move (blk_cell HGC.out 0) (fun hlt => HB.out.block _ hlt)
              have hgy : wr.cell? ⟨w.heap.size, 1, none⟩ = some (.slice A0 L.length c0) := cell_move (blk_cell HGC.out 1) (fun hlt => HB.out.block _ hlt)
              have hgl : w.heap.size < wr.heap.size := World.block_lt_of_cell? wr _ hgx
              replace h := Option.bind_eq_some_iff.1 h
              obtain ⟨⟨ord, eo⟩, ho, h⟩ := h
              simp only at h
              have HO := Aside0.mk ho
              have hgw := HG.out.below (below_step HB3.out HB.out)
              have HGW := Aside0.mk hgw
              clear H ho hgw
              by_cases e0 : eo = 0
              · subst e0
                rw [if_pos rfl] at h
                by_cases e1 : ord ≤ 5040
                · rw [if_pos e1] at h
                  have H := Aside0.mk h
                  have e2 : (5040 < ord) = False := eq_false (by omega)
                  clear h
                  go_wp2_with (go_at_call 50; (refine (permgroup_Order.calls k n A0 c0 L ord 0 _ HGW.out.2.2 HGW.out.2.1 HO.out).mono ?_); rintro e' w5 ⟨rfl, hb5⟩; have HB5 := Aside0.mk (below_step HB.out hb5); clear hb5)
                  clear hj hj2 hgx hgy hgl HI e1 e2 HGW HB
                  go_loopg [80] rows.length (fun kq v80 w' => ∃ (i : Nat), v80 = .int .i64 (i : Int) ∧ Aside0 (Below w3.heap.size w3 w') ∧ Aside0 (chk5 k (n, L) (subs.drop i) = some r) ∧ Aside0 (i + kq = rows.length))
                  case atStart => exact ⟨0, (by first | rfl | (simp; done)), HB5, H, ⟨by omega⟩⟩
                  case round =>
                    clear H HB5
                    obtain ⟨i, rfl, HB, HA, HI⟩ := hrel
                    have ha := HA.out
                    clear HA
                    have HLEN := Aside0.mk HS.out.len
                    cases gk with
                    | zero =>
                      have hj : (i < rows.length) = False := eq_false (by have := HI.out; omega)
                      have hj2 : ((i : Int) < (rows.length : Int)) = False := eq_false (by have := HI.out; omega)
                      rw [List.drop_eq_nil_of_le (by have := HI.out; have := HLEN.out; omega)] at ha
                      obtain rfl : 0 = r := Option.some.inj ha
                      go_wp2
                      go_ret
                      exact ⟨rfl, below_then HB3.out HB3.out.size HB.out⟩
                    | succ m =>
                      have hil : i < subs.length := by have := HI.out; have := HLEN.out; omega
                      have hj : (i < rows.length) = True := eq_true (by have := HI.out; omega)
                      have hj2 : ((i : Int) < (rows.length : Int)) = True := eq_true (by have := HI.out; omega)
                      have hj0 : (0 ≤ (i : Int)) = True := eq_true (by omega)
                      have wi : wrap64 ((i : Int) + 1) = ((i + 1 : Nat) : Int) := (IntWalk.wrap64_in _ ⟨by omega, by have := HI.out; have := HSM.out; omega⟩).trans (by omega)
                      obtain ⟨g1, eg1⟩ : ∃ g1, A1 = some ⟨g1, 0, none⟩ := HA1.out.resolve_left (fun e => by rw [e] at hj; simp at hj)
                      subst eg1
                      obtain ⟨Aj, cj, q1, q2, q3⟩ := ((HS.out.below (below_w HB3.out)).below HB.out).cells0 hil
                      rw [List.drop_eq_getElem_cons hil, chk5] at ha
                      obtain ⟨⟨dj, Lj⟩, eg⟩ : ∃ t : Grp, subs[i] = t := ⟨_, rfl⟩
                      rw [eg] at q1 q2 q3 ha
                      simp only at q1 q2 q3 ha
                      have hgx : wr.cell? ⟨w.heap.size, 0, none⟩ = some (.int .i64 n) := cell_move (blk_cell HGC.out 0) (fun hlt => HB.out.block _ hlt)
                      have hgy : wr.cell? ⟨w.heap.size, 1, none⟩ = some (.slice A0 L.length c0) := cell_move (blk_cell HGC.out 1) (fun hlt => HB.out.block _ hlt)
                      have hgl : w.heap.size < wr.heap.size := World.block_lt_of_cell? wr _ hgx
                      have hgw := HG.out.below (below_step HB3.out HB.out)
                      have HGW := Aside0.mk hgw
                      have Q3 := Aside0.mk q3
                      replace ha := Option.bind_eq_some_iff.1 ha
                      obtain ⟨⟨is, es⟩, hb1, ha⟩ := ha
                      simp only at ha
                      have HCK := Aside0.mk hb1
                      clear hb1 q3 eg hgw
                      by_cases e0 : es = 0
                      · subst e0
                        rw [if_pos rfl] at ha
                        cases is with
                        | true =>
                          rw [if_pos rfl] at ha
                          have HA2 := Aside0.mk ha
                          clear ha
                          go_wp2_with (go_at_call 75; (refine (permgroup_IsSubgroup.calls k dj Aj cj Lj n A0 c0 L true 0 _ (Kd.C_below Q3.out.2.2 bel0) Q3.out.2.1 (Kd.C_below HGW.out.2.2 bel0) HGW.out.2.1 HCK.out).mono ?_); rintro e' w5 ⟨rfl, hb5⟩; have HB5 := Aside0.mk (below_step HB.out (below_step (w := wr) bel0 hb5)); clear hb5)
                          go_roundg m
                          case measure => exact Nat.lt_succ_self _
                          case rel => exact ⟨i + 1, (by first | (rw [wi]; done) | rfl), HB5, HA2, ⟨by have := HI.out; omega⟩⟩
                        | false =>
                          rw [if_neg (by decide)] at ha
                          obtain rfl : 15 = r := Option.some.inj ha
                          clear ha
                          go_wp2_with (go_at_call 75; (refine (permgroup_IsSubgroup.calls k dj Aj cj Lj n A0 c0 L false 0 _ (Kd.C_below Q3.out.2.2 bel0) Q3.out.2.1 (Kd.C_below HGW.out.2.2 bel0) HGW.out.2.1 HCK.out).mono ?_); rintro e' w5 ⟨rfl, hb5⟩; have HB5 := Aside0.mk (below_step HB.out (below_step (w := wr) bel0 hb5)); clear hb5)
                          go_ret
                          exact ⟨rfl, below_then HB3.out HB3.out.size HB5.out⟩
                      · rw [if_neg e0] at ha
                        obtain rfl : 15 = r := Option.some.inj ha
                        have c1 : (es == 0) = false := beq_eq_false_iff_ne.mpr e0
                        have c2 : (es != 0) = true := bne_iff_ne.mpr e0
                        clear ha e0
                        go_wp2_with (go_at_call 75; (refine (permgroup_IsSubgroup.calls k dj Aj cj Lj n A0 c0 L is es _ (Kd.C_below Q3.out.2.2 bel0) Q3.out.2.1 (Kd.C_below HGW.out.2.2 bel0) HGW.out.2.1 HCK.out).mono ?_); rintro e' w5 ⟨rfl, hb5⟩; have HB5 := Aside0.mk (below_step HB.out (below_step (w := wr) bel0 hb5)); clear hb5)
                        go_ret
                        exact ⟨rfl, below_then HB3.out HB3.out.size HB5.out⟩
                · rw [if_neg e1] at h
                  obtain rfl : 5 = r := Option.some.inj h
                  have e2 : (5040 < ord) = True := eq_true (by omega)
                  clear h
                  go_wp2_with (go_at_call 50; (refine (permgroup_Order.calls k n A0 c0 L ord 0 _ HGW.out.2.2 HGW.out.2.1 HO.out).mono ?_); rintro e' w5 ⟨rfl, hb5⟩; have HB5 := Aside0.mk (below_step HB.out hb5); clear hb5)
                  go_ret
                  exact ⟨rfl, below_then HB3.out HB3.out.size HB5.out⟩
              · rw [if_neg e0] at h
                obtain rfl : 5 = r := Option.some.inj h
                have c1 : (eo == 0) = false := beq_eq_false_iff_ne.mpr e0
                have c2 : (eo != 0) = true := bne_iff_ne.mpr e0
                clear h
                go_wp2_with (go_at_call 50; (refine (permgroup_Order.calls k n A0 c0 L ord eo _ HGW.out.2.2 HGW.out.2.1 HO.out).mono ?_); rintro e' w5 ⟨rfl, hb5⟩; have HB5 := Aside0.mk (below_step HB.out hb5); clear hb5)
                go_ret
                exact ⟨rfl, below_then HB3.out HB3.out.size HB5.out⟩
            | succ m =>
              have hip : i < perms.length := by have := HI.out; omega
              have hj : (i < perms.length) = True := eq_true hip
              have hj2 : ((i : Int) < (perms.length : Int)) = True := eq_true (by omega)
              have hj0 : (0 ≤ (i : Int)) = True := eq_true (by omega)
              obtain ⟨ad, gv, eA, hcell0, hga⟩ := row_at HP.out (List.getElem?_eq_getElem hip)
              subst eA
              obtain ⟨a2, ca2, e2, hle2, hC2⟩ := hga
              rw [e2] at hcell0
              rw [List.drop_eq_getElem_cons hip, chk3] at ha
              obtain ⟨p, hp⟩ : ∃ p, perms[i] = p := ⟨_, rfl⟩
              rw [hp] at hcell0 hle2 hC2 ha
              have hblt := World.block_lt_of_cell? w _ hcell0
              have hcell := (World.cell?_of_block (w := w) (w' := wr) ((HB.out.block _ (Nat.lt_of_lt_of_le hblt HB3.out.size)).trans (HB3.out.block _ hblt))).trans hcell0
              have hgx : wr.cell? ⟨w.heap.size, 0, none⟩ = some (.int .i64 n) := cell_move (blk_cell HGC.out 0) (fun hlt => HB.out.block _ hlt)
              have hgl : w.heap.size < wr.heap.size := World.block_lt_of_cell? wr _ hgx
              have HC2' := Aside0.mk (Kd.C_below (Kd.C_below hC2 (below_w HB3.out)) HB.out)
              have HL2 := Aside0.mk hle2
              replace ha := Option.bind_eq_some_iff.1 ha
              obtain ⟨e, hb1, ha⟩ := ha
              have HCK := Aside0.mk hb1
              have wi : wrap64 ((i : Int) + 1) = ((i + 1 : Nat) : Int) := (IntWalk.wrap64_in _ ⟨by omega, by have := HPM.out; omega⟩).trans (by omega)
              clear hb1 hp hcell0 hle2 hC2 e2
              by_cases e0 : e = 0
              · subst e0
                rw [if_pos rfl] at ha
                by_cases e1 : (p.length : Int) = n
                · rw [if_pos e1] at ha
                  have HA2 := Aside0.mk ha
                  clear ha
                  subst e1
                  go_wp2_with (go_at_call 74; (refine (perm_Check.calls k a2 ca2 p 0 _ HC2'.out HL2.out HCK.out).mono ?_); rintro e' w5 ⟨rfl, ⟨nd, rfl⟩⟩)
                  go_roundg m
                  case measure => exact Nat.lt_succ_self _
                  case rel => exact ⟨i + 1, (by first | (rw [wi]; done) | rfl), ⟨below_step HB.out bel0⟩, HA2, ⟨by have := HI.out; omega⟩⟩
                · rw [if_neg e1] at ha
                  obtain rfl : 2 = e3 := Option.some.inj ha
                  have h := H.out
                  rw [if_neg (by decide)] at h
                  obtain rfl : 2 = r := Option.some.inj h
                  have c1 : ((p.length : Int) == n) = false := beq_eq_false_iff_ne.mpr e1
                  have c2 : ((p.length : Int) != n) = true := bne_iff_ne.mpr e1
                  clear ha h H e1
                  go_wp2_with (go_at_call 74; (refine (perm_Check.calls k a2 ca2 p 0 _ HC2'.out HL2.out HCK.out).mono ?_); rintro e' w5 ⟨rfl, ⟨nd, rfl⟩⟩)
                  go_ret
                  exact ⟨rfl, below_then HB3.out HB3.out.size (below_step HB.out bel0)⟩
              · rw [if_neg e0] at ha
                obtain rfl : e = e3 := Option.some.inj ha
                have h := H.out
                rw [if_neg e0] at h
                obtain rfl : e = r := Option.some.inj h
                have c1 : (e == 0) = false := beq_eq_false_iff_ne.mpr e0
                have c2 : (e != 0) = true := bne_iff_ne.mpr e0
                clear ha h H e0
                go_wp2_with (go_at_call 74; (refine (perm_Check.calls k a2 ca2 p e _ HC2'.out HL2.out HCK.out).mono ?_); rintro e' w5 ⟨rfl, ⟨nd, rfl⟩⟩)
                go_ret
                exact ⟨rfl, below_then HB3.out HB3.out.size (below_step HB.out bel0)⟩
        | succ m =>
          have hil : i < subs.length := by have := HI.out; have := HLEN.out; omega
          have hj : (i < rows.length) = True := eq_true (by have := HI.out; omega)
          have hj2 : ((i : Int) < (rows.length : Int)) = True := eq_true (by have := HI.out; omega)
          have hj0 : (0 ≤ (i : Int)) = True := eq_true (by omega)
          have wi : wrap64 ((i : Int) + 1) = ((i + 1 : Nat) : Int) := (IntWalk.wrap64_in _ ⟨by omega, by have := HI.out; have := HSM.out; omega⟩).trans (by omega)
          rw [List.drop_eq_getElem_cons hil, List.all_cons] at ha
          obtain ⟨g1, eg1⟩ : ∃ g1, A1 = some ⟨g1, 0, none⟩ := HA1.out.resolve_left (fun e => by rw [e] at hj; simp at hj)
          subst eg1
          obtain ⟨Aj, cj, q1, q2, q3⟩ := ((HS.out.below (below_w HB3.out)).below HB.out).cells0 hil
          obtain ⟨⟨dj, Lj⟩, eg⟩ : ∃ t : Grp, subs[i] = t := ⟨_, rfl⟩
          rw [eg] at q1 q2 q3 ha
          simp only at q1 q2 q3 ha
          have hgx : wr.cell? ⟨w.heap.size, 0, none⟩ = some (.int .i64 n) := cell_move (blk_cell HGC.out 0) (fun hlt => HB.out.block _ hlt)
          have hgl : w.heap.size < wr.heap.size := World.block_lt_of_cell? wr _ hgx
          clear q3 eg
          by_cases e0 : dj = n
          · subst e0
            rw [decide_eq_true rfl, Bool.true_and] at ha
            have HA2 := Aside0.mk ha
            clear ha
            go_wp2
            go_roundg m
            case measure => exact Nat.lt_succ_self _
            case rel => exact ⟨i + 1, (by first | (rw [wi]; done) | rfl), ⟨below_alloc HB.out _⟩, HA2, ⟨by have := HI.out; omega⟩⟩
          · rw [decide_eq_false e0, Bool.false_and] at ha
            obtain rfl : false = ball := ha
            have h := H.out
            rw [if_neg (by decide)] at h
            obtain rfl : 2 = r := Option.some.inj h
            have c1 : (dj == n) = false := beq_eq_false_iff_ne.mpr e0
            have c2 : (dj != n) = true := bne_iff_ne.mpr e0
            clear h H e0
            go_wp2
            go_ret
            exact ⟨rfl, below_alloc (below_then HB3.out HB3.out.size HB.out) _⟩
    | succ m =>
      have hil : i < ((n, L) :: subs).length := by rw [List.length_cons]; have := HI.out; have := HLEN.out; omega
      have hj : (i < rows.length + 1) = True := eq_true (by have := HI.out; omega)
      have hj2 : ((i : Int) < (rows.length : Int) + 1) = True := eq_true (by have := HI.out; omega)
      have hj0 : (0 ≤ (i : Int)) = True := eq_true (by omega)
      have wi : wrap64 ((i : Int) + 1) = ((i + 1 : Nat) : Int) := (IntWalk.wrap64_in _ ⟨by omega, by have := HI.out; have := HSM.out; omega⟩).trans (by omega)
      rw [List.drop_eq_getElem_cons hil, chk1] at ha
      obtain ⟨Aj, cj, q1, q2, q3⟩ := (HG3.out.below HB.out).cells0 hil
      obtain ⟨⟨dj, Lj⟩, eg⟩ : ∃ t : Grp, ((n, L) :: subs)[i] = t := ⟨_, rfl⟩
      rw [eg] at q1 q2 q3 ha
      simp only at q1 q2 q3 ha
      replace ha := Option.bind_eq_some_iff.1 ha
      obtain ⟨e, hb1, ha⟩ := ha
      have HCK := Aside0.mk hb1
      have Q3 := Aside0.mk q3
      clear hb1 q3 eg
      by_cases e0 : e = 0
      · rw [if_pos e0] at ha
        subst e0
        have HA2 := Aside0.mk ha
        clear ha
        go_wp2_with (go_at_call 73; (refine (permgroup_Check.calls k dj Aj cj Lj 0 _ (Kd.C_below Q3.out.2.2 bel0) Q3.out.2.1 HCK.out).mono ?_); rintro e w5 ⟨rfl, hb5⟩; have HB5 := Aside0.mk (below_step HB.out (below_step (w := wr) bel0 hb5)); clear hb5)
        go_roundg m
        case measure => exact Nat.lt_succ_self _
        case rel => exact ⟨i + 1, (by first | (rw [wi]; done) | rfl), HB5, HA2, ⟨by have := HI.out; omega⟩⟩
      · rw [if_neg e0] at ha
        obtain rfl : e = e1 := Option.some.inj ha
        have h := H.out
        rw [if_neg e0] at h
        obtain rfl : e = r := Option.some.inj h
        have c1 : (e == 0) = false := beq_eq_false_iff_ne.mpr e0
        have c2 : (e != 0) = true := bne_iff_ne.mpr e0
        clear ha h H e0
        go_wp2_with (go_at_call 73; (refine (permgroup_Check.calls k dj Aj cj Lj e _ (Kd.C_below Q3.out.2.2 bel0) Q3.out.2.1 HCK.out).mono ?_); rintro e' w5 ⟨rfl, hb5⟩; have HB5 := Aside0.mk (below_step HB.out (below_step (w := wr) bel0 hb5)); clear hb5)
        go_ret
        exact ⟨rfl, below_then HB3.out HB3.out.size HB5.out⟩
end Go.Proofs.Ytaaaljifclecnaa.Bs
end
section
/- The walks of coset's functions over what cosetsOf makes. -/
namespace Go.Proofs.Ytaaaljifclecnaa.Bs
open Go.RowKit Go.Maps Go.Proofs.YtaaaljifclecnaaW.PrintWords Go.Proofs.YtaaaljifclecnaaW.PrintLast Go.Proofs.YtaaaljifclecnaaW.PrintMore Go.Proofs.Ytaaaljifclecnaa.Plain Go.Proofs.Ytaaaljifclecnaa.PBs
open Go.Proofs.Ytaaaljifclecnaa.PCo (coset_mul.f coset_mul.mono coset_mul.calls coset_key.f coset_key.mono coset_key.calls coset_inverse.f coset_inverse.mono coset_inverse.calls permgroup_Elements.f permgroup_Elements.mono permgroup_Elements.calls)
set_option maxHeartbeats 16000000 in
set_option maxRecDepth 100000 in
theorem of_any (k : Nat) (C : CosV) (p : List Int) (s : ByteArray) {w : World} {v : Value} {A : Option Addr} {c : Nat} (hC : Cos w v C) (hp : Kd.C (Kd.int .i64) w A p.length p) (hc : p.length ≤ c) (hk : coset_key.f k p = some s) (hs : s.size ≤ 1000) :
    Calls Try.prog 53 #[v, .slice A p.length c] w fun e w' => e = .returned (.int .i64 ((C.num s).getD 0)) ∧ Below w.heap.size w w' := by
  have hu2 := Try.underlying81
  obtain ⟨Ae, ce, Ao, co, Al, cl, b, n, rfl, h1, h2, h3, h4⟩ := hC
  have H4 := Aside0.mk h4
  have HP := Aside0.mk hp
  have HC := Aside0.mk hc
  have HK := Aside0.mk hk
  have HS := Aside0.mk hs
  clear hp hc hk hs h1 h2 h3 h4
  go_enter Try.func53, Try.ntmps53
  obtain ⟨w5, hw5⟩ : ∃ w5 : World, w5 = w.alloc (.cells #[.slice Ae C.els.length ce, .slice Ao C.own.length co, .slice Al C.least.length cl, .map (some b)] 81) := ⟨_, rfl⟩
  have hb5 : Below w.heap.size w w5 := by rw [hw5]; exact below_alloc (Below.refl _ _) _
  have hx5 : w5.heap[w.heap.size]? = some (.cells #[.slice Ae C.els.length ce, .slice Ao C.own.length co, .slice Al C.least.length cl, .map (some b)] 81 (0, 0)) := by rw [hw5]; exact blk_new _ _
  have HB5 := Aside0.mk hb5
  have HX5 := Aside0.mk hx5
  have hc5 : w5.cell? ⟨w.heap.size, 3, none⟩ = some (.map (some b)) := blk_cell hx5 3
  clear hb5 hx5
  go_wp2
  rw [← hw5]
  clear hw5
  go_region_with (go_at_call 62; (refine (coset_key.calls k A c p s _ (Kd.C_below HP.out (below_step HB5.out bel0)) HC.out HK.out).mono ?_); rintro e w8 ⟨rfl, hb8⟩; have HB8 := Aside0.mk (below_step (w := w5) bel0 hb8); have hl8 := ((H4.out.below HB5.out).below HB8.out).look HS.out; have hc8 : w8.cell? ⟨w.heap.size, 3, none⟩ = some (.map (some b)) := cell_move hc5 (fun hlt => HB8.out.block _ hlt); clear hb8)
  all_goals go_wp2
  all_goals go_ret
  all_goals exact ⟨rfl, below_step HB5.out HB8.out⟩
theorem run_least (w : World) (a b c d : Value) : (Instr.field 81 (.agg #[a, b, c, d]) 2).run Try.prog w = .ok c w := by kernel_rfl
theorem start3 (w : World) (a b c : Obj) : (((w.alloc a).alloc b).alloc c).heap[w.heap.size]? = some a ∧ (((w.alloc a).alloc b).alloc c).heap[w.heap.size + 1]? = some b ∧ (((w.alloc a).alloc b).alloc c).heap[w.heap.size + 1 + 1]? = some c := by
  have e1 : (w.alloc a).heap.size = w.heap.size + 1 := by simp
  have e2 : ((w.alloc a).alloc b).heap.size = w.heap.size + 1 + 1 := by simp
  have h1 := blk_new w a
  have h2 := blk_new (w.alloc a) b
  have h3 := blk_new ((w.alloc a).alloc b) c
  rw [e1] at h2
  rw [e2] at h3
  refine ⟨?_, ?_, h3⟩
  · exact (((below_alloc (below_alloc (Below.refl _ _) b) c).block _ (blk_lt h1)).trans h1)
  · exact (((below_alloc (Below.refl _ _) c).block _ (blk_lt h2)).trans h2)
def indexV (k : Nat) (a0 : Int) (l0 : List (List Int)) (a1 : Int) (l1 : List (List Int)) : Option (Int × Int) := (checkM k (a0, l0) [(a1, l1)] []).bind fun e => if e = 0 then (cosM k a0 l0 a1 l1).bind fun C => some (C.least.length, 0) else some (0, e)
theorem one_grp {w : World} {b : Nat} {n : Int} {A : Option Addr} {c : Nat} {L : List (List Int)} (hcell : w.heap[b]? = some (.cells #[.int .i64 n, .slice A L.length c] 24 (0, 0))) (hc : L.length ≤ c) (hr : Kd.C (Kd.slice 3 (Kd.int .i64)) w A L.length L) : GrpsAt w (some ⟨b, 0, none⟩) [(n, (A, L.length, c))] [(n, L)] := by
  refine ⟨rfl, ⟨rfl, by simp, fun _ => ⟨_, rfl, fun j x hj => ?_⟩⟩, fun j r g h1 h2 => ?_⟩
  · cases j with
    | zero =>
      obtain rfl := Option.some.inj hj
      refine ⟨[.int .i64 n, .slice A L.length c], rfl, ⟨[.int .i64 n], [.slice A L.length c], rfl, rfl, rfl⟩, fun i x hi => ?_⟩
      have e : ∀ i, (⟨b, 0, none⟩ : Addr).add (0 * kg.sz + i) = ⟨b, i, none⟩ := fun i => by simp [Addr.add]; try (intro h; exact h.symm)
      rw [e]
      match i, hi with
      | 0, hi => obtain rfl := Option.some.inj hi; exact blk_cell hcell 0
      | 1, hi => obtain rfl := Option.some.inj hi; exact blk_cell hcell 1
      | i + 2, hi => simp at hi
    | succ j => simp at hj
  · cases j with
    | zero =>
      obtain rfl := Option.some.inj h1
      obtain rfl := Option.some.inj h2
      exact ⟨rfl, rfl, hc, hr⟩
    | succ j => simp at h1
set_option maxHeartbeats 16000000 in
set_option maxRecDepth 100000 in
theorem index_any (k : Nat) (a0 : Int) (A0 : Option Addr) (c0 : Nat) (l0 : List (List Int)) (a1 : Int) (A1 : Option Addr) (c1 : Nat) (l1 : List (List Int)) (r1 r2 : Int) (w : World) (hr0 : Kd.C (Kd.slice 3 (Kd.int .i64)) w A0 l0.length l0) (hc0 : l0.length ≤ c0) (hr1 : Kd.C (Kd.slice 3 (Kd.int .i64)) w A1 l1.length l1) (hc1 : l1.length ≤ c1) (h : indexV k a0 l0 a1 l1 = some (r1, r2)) :
    Calls Try.prog 21 #[.agg #[.int .i64 a0, .slice A0 l0.length c0], .agg #[.int .i64 a1, .slice A1 l1.length c1]] w fun e w' => e = .returned (.tuple #[.int .i64 r1, .int .i64 r2]) ∧ Below w.heap.size w w' := by
  have hu := Try.underlying24
  have hu2 := Try.underlying81
  have hf2 := run_least
  have HG0 := Aside0.mk hr0
  have HC0 := Aside0.mk hc0
  have HG1 := Aside0.mk hr1
  have HC1 := Aside0.mk hc1
  unfold indexV at h
  replace h := Option.bind_eq_some_iff.1 h
  obtain ⟨e1, hk, h⟩ := h
  have HK := Aside0.mk hk
  clear hr0 hc0 hr1 hc1 hk
  have HST := Aside0.mk (start3 w (.cells #[.int .i64 a0, .slice A0 l0.length c0] 24) (.cells #[.int .i64 a1, .slice A1 l1.length c1] 24) (.cells #[.int .i64 a1, .slice A1 l1.length c1] 24))
  go_enter Try.func21, Try.ntmps21
  by_cases e0 : e1 = 0
  · subst e0
    rw [if_pos rfl] at h
    replace h := Option.bind_eq_some_iff.1 h
    obtain ⟨C, hC, h⟩ := h
    have HM := Aside0.mk hC
    obtain ⟨rfl, rfl⟩ : (C.least.length : Int) = r1 ∧ 0 = r2 := ⟨congrArg Prod.fst (Option.some.inj h), congrArg Prod.snd (Option.some.inj h)⟩
    clear h hC
    go_wp2_with (first | (go_at_call 49; (refine (check_any k (a0, l0) [(a1, l1)] [] 0 (rows := [(a1, (A1, l1.length, c1))]) ⟨rfl, HC0.out, Kd.C_below HG0.out bel0⟩ (one_grp HST.out.2.2 HC1.out (Kd.C_below HG1.out bel0)) (Or.inr ⟨_, rfl⟩) (Nat.le_refl _) (by simp) (by simp) ⟨rfl, by simp, fun h => absurd h (by simp)⟩ (Nat.zero_le _) HK.out).mono ?_); rintro e w5 ⟨rfl, hb5⟩; have hx0 : w5.cell? ⟨w.heap.size, 0, none⟩ = some (.int .i64 a0) := blk_cell ((hb5.block _ (blk_lt HST.out.1)).trans HST.out.1) 0; have hx1 : w5.cell? ⟨w.heap.size, 1, none⟩ = some (.slice A0 l0.length c0) := blk_cell ((hb5.block _ (blk_lt HST.out.1)).trans HST.out.1) 1; have hy0 : w5.cell? ⟨w.heap.size + 1, 0, none⟩ = some (.int .i64 a1) := blk_cell ((hb5.block _ (blk_lt HST.out.2.1)).trans HST.out.2.1) 0; have hy1 : w5.cell? ⟨w.heap.size + 1, 1, none⟩ = some (.slice A1 l1.length c1) := blk_cell ((hb5.block _ (blk_lt HST.out.2.1)).trans HST.out.2.1) 1; have hlt := Nat.lt_of_lt_of_le (blk_lt HST.out.2.1) hb5.size; have hl0 : w.heap.size < w5.heap.size := (by omega); have HB5 : Aside0 (Below w.heap.size w w5) := ⟨below_step (below_alloc (below_alloc (below_alloc (Below.refl _ _) _) _) _) hb5⟩; clear hb5) | (go_at_call 51; (refine (cosetsOf_any k a0 A0 c0 l0 a1 A1 c1 l1 C _ (Kd.C_below HG0.out HB5.out) HC0.out (Kd.C_below HG1.out HB5.out) HC1.out HM.out).mono ?_); rintro e w6 ⟨v, rfl, hC6, hb6⟩; obtain ⟨Ae, ce, Ao, co, Al, cl, b, n, rfl, h1, h2, h3, h4⟩ := hC6; have HB6 := Aside0.mk (below_step HB5.out hb6); clear hb6 h1 h2 h3 h4))
    go_ret2
    exact ⟨rfl, HB6.out⟩
  · rw [if_neg e0] at h
    obtain ⟨rfl, rfl⟩ : 0 = r1 ∧ e1 = r2 := ⟨congrArg Prod.fst (Option.some.inj h), congrArg Prod.snd (Option.some.inj h)⟩
    have q1 : (e1 == 0) = false := beq_eq_false_iff_ne.mpr e0
    have q2 : (e1 != 0) = true := bne_iff_ne.mpr e0
    clear h e0
    go_wp2_with (go_at_call 49; (refine (check_any k (a0, l0) [(a1, l1)] [] e1 (rows := [(a1, (A1, l1.length, c1))]) ⟨rfl, HC0.out, Kd.C_below HG0.out bel0⟩ (one_grp HST.out.2.2 HC1.out (Kd.C_below HG1.out bel0)) (Or.inr ⟨_, rfl⟩) (Nat.le_refl _) (by simp) (by simp) ⟨rfl, by simp, fun h => absurd h (by simp)⟩ (Nat.zero_le _) HK.out).mono ?_); rintro e w5 ⟨rfl, hb5⟩; have hx0 : w5.cell? ⟨w.heap.size, 0, none⟩ = some (.int .i64 a0) := blk_cell ((hb5.block _ (blk_lt HST.out.1)).trans HST.out.1) 0; have hx1 : w5.cell? ⟨w.heap.size, 1, none⟩ = some (.slice A0 l0.length c0) := blk_cell ((hb5.block _ (blk_lt HST.out.1)).trans HST.out.1) 1; have hy0 : w5.cell? ⟨w.heap.size + 1, 0, none⟩ = some (.int .i64 a1) := blk_cell ((hb5.block _ (blk_lt HST.out.2.1)).trans HST.out.2.1) 0; have hy1 : w5.cell? ⟨w.heap.size + 1, 1, none⟩ = some (.slice A1 l1.length c1) := blk_cell ((hb5.block _ (blk_lt HST.out.2.1)).trans HST.out.2.1) 1; have hlt := Nat.lt_of_lt_of_le (blk_lt HST.out.2.1) hb5.size; have hl0 : w.heap.size < w5.heap.size := (by omega); have HB5 : Aside0 (Below w.heap.size w w5) := ⟨below_step (below_alloc (below_alloc (below_alloc (Below.refl _ _) _) _) _) hb5⟩; clear hb5)
    go_ret2
    exact ⟨rfl, HB5.out⟩
def fitL (l : List (List Int)) : Bool := decide (l.length ≤ 6000) && l.all fun p => decide (p.length ≤ 1000000)
theorem fitL_len {l : List (List Int)} (h : fitL l = true) : l.length ≤ 6000 := by unfold fitL at h; rw [Bool.and_eq_true] at h; exact of_decide_eq_true h.1
theorem fitL_at {l : List (List Int)} (h : fitL l = true) {p : List Int} (hp : p ∈ l) : p.length ≤ 1000000 := by unfold fitL at h; rw [Bool.and_eq_true, List.all_eq_true] at h; exact of_decide_eq_true (h.2 p hp)
def repsV (k : Nat) (a0 : Int) (l0 : List (List Int)) (a1 : Int) (l1 : List (List Int)) : Option (List (List Int) × Int) := (checkM k (a0, l0) [(a1, l1)] []).bind fun e => if e = 0 then (cosM k a0 l0 a1 l1).bind fun C => if fitL C.least = true then some (C.least, 0) else none else some ([], e)
set_option maxHeartbeats 16000000 in
set_option maxRecDepth 100000 in
theorem reps_any (k : Nat) (a0 : Int) (A0 : Option Addr) (c0 : Nat) (l0 : List (List Int)) (a1 : Int) (A1 : Option Addr) (c1 : Nat) (l1 : List (List Int)) (r1 : List (List Int)) (r2 : Int) (w : World) (hr0 : Kd.C (Kd.slice 3 (Kd.int .i64)) w A0 l0.length l0) (hc0 : l0.length ≤ c0) (hr1 : Kd.C (Kd.slice 3 (Kd.int .i64)) w A1 l1.length l1) (hc1 : l1.length ≤ c1) (h : repsV k a0 l0 a1 l1 = some (r1, r2)) :
    Calls Try.prog 22 #[.agg #[.int .i64 a0, .slice A0 l0.length c0], .agg #[.int .i64 a1, .slice A1 l1.length c1]] w fun e w' => ∃ v0_ : Value, e = .returned (.tuple #[v0_, .int .i64 r2]) ∧ Kd.S (Kd.slice 3 (Kd.int .i64)) 43 w' w.heap.size (fun _ => True) v0_ r1 ∧ Below w.heap.size w w' := by
  have hu := Try.underlying24
  have hu2 := Try.underlying81
  have hf2 := run_least
  have HG0 := Aside0.mk hr0
  have HC0 := Aside0.mk hc0
  have HG1 := Aside0.mk hr1
  have HC1 := Aside0.mk hc1
  unfold repsV at h
  replace h := Option.bind_eq_some_iff.1 h
  obtain ⟨e1, hk, h⟩ := h
  have HK := Aside0.mk hk
  clear hr0 hc0 hr1 hc1 hk
  have HST := Aside0.mk (start3 w (.cells #[.int .i64 a0, .slice A0 l0.length c0] 24) (.cells #[.int .i64 a1, .slice A1 l1.length c1] 24) (.cells #[.int .i64 a1, .slice A1 l1.length c1] 24))
  go_enter Try.func22, Try.ntmps22
  by_cases e0 : e1 = 0
  · subst e0
    rw [if_pos rfl] at h
    replace h := Option.bind_eq_some_iff.1 h
    obtain ⟨C, hC, h⟩ := h
    have HM := Aside0.mk hC
    have hfit : fitL C.least = true := by
      by_cases e : fitL C.least = true
      · exact e
      · rw [if_neg e] at h; cases h
    rw [if_pos hfit] at h
    have HF := Aside0.mk hfit
    obtain ⟨rfl, rfl⟩ : C.least = r1 ∧ 0 = r2 := ⟨congrArg Prod.fst (Option.some.inj h), congrArg Prod.snd (Option.some.inj h)⟩
    clear h hC hfit
    go_wp2_with (first | (go_at_call 49; (refine (check_any k (a0, l0) [(a1, l1)] [] 0 (rows := [(a1, (A1, l1.length, c1))]) ⟨rfl, HC0.out, Kd.C_below HG0.out bel0⟩ (one_grp HST.out.2.2 HC1.out (Kd.C_below HG1.out bel0)) (Or.inr ⟨_, rfl⟩) (Nat.le_refl _) (by simp) (by simp) ⟨rfl, by simp, fun h => absurd h (by simp)⟩ (Nat.zero_le _) HK.out).mono ?_); rintro e w5 ⟨rfl, hb5⟩; have hx0 : w5.cell? ⟨w.heap.size, 0, none⟩ = some (.int .i64 a0) := blk_cell ((hb5.block _ (blk_lt HST.out.1)).trans HST.out.1) 0; have hx1 : w5.cell? ⟨w.heap.size, 1, none⟩ = some (.slice A0 l0.length c0) := blk_cell ((hb5.block _ (blk_lt HST.out.1)).trans HST.out.1) 1; have hy0 : w5.cell? ⟨w.heap.size + 1, 0, none⟩ = some (.int .i64 a1) := blk_cell ((hb5.block _ (blk_lt HST.out.2.1)).trans HST.out.2.1) 0; have hy1 : w5.cell? ⟨w.heap.size + 1, 1, none⟩ = some (.slice A1 l1.length c1) := blk_cell ((hb5.block _ (blk_lt HST.out.2.1)).trans HST.out.2.1) 1; have hlt := Nat.lt_of_lt_of_le (blk_lt HST.out.2.1) hb5.size; have hl0 : w.heap.size < w5.heap.size := (by omega); have HB5 : Aside0 (Below w.heap.size w w5) := ⟨below_step (below_alloc (below_alloc (below_alloc (Below.refl _ _) _) _) _) hb5⟩; clear hb5) | (go_at_call 51; (refine (cosetsOf_any k a0 A0 c0 l0 a1 A1 c1 l1 C _ (Kd.C_below HG0.out HB5.out) HC0.out (Kd.C_below HG1.out HB5.out) HC1.out HM.out).mono ?_); rintro e w6 ⟨v, rfl, hC6, hb6⟩; obtain ⟨Ae, ce, Ao, co, Al, cl, b, n, rfl, h1, h2, h3, h4⟩ := hC6; have HL6 := Aside0.mk h3; have HB6 := Aside0.mk (below_step HB5.out hb6); clear hb6 h1 h2 h3 h4))
    go_loopg [22, 7] C.least.length (fun kq v22 v7 w' => ∃ (i : Nat), v22 = .int .i64 (i : Int) ∧ Aside0 (Kd.S (Kd.slice 3 (Kd.int .i64)) 43 w' w6.heap.size (fun b => w6.heap.size ≤ b) v7 (C.least.take i)) ∧ Aside0 (Below w6.heap.size w6 w') ∧ Aside0 (i + kq = C.least.length))
    case atStart => exact ⟨0, (by first | rfl | (simp; done)), ⟨Kd.S_nil _ _ _ _ _⟩, ⟨Below.refl _ _⟩, ⟨by omega⟩⟩
    case round =>
      obtain ⟨i, rfl, HO, HB, HI⟩ := hrel
      cases gk with
      | zero =>
        have hj : (i < C.least.length) = False := eq_false (by have := HI.out; omega)
        have hj2 : ((i : Int) < (C.least.length : Int)) = False := eq_false (by have := HI.out; omega)
        have el : C.least.take i = C.least := List.take_of_length_le (by have := HI.out; omega)
        go_wp2
        go_ret2
        exact ⟨_, rfl, Kd.S_mono (Kd.S_lower (by rw [← el]; exact HO.out) HB6.out.size) (fun _ _ => trivial), below_step HB6.out HB.out⟩
      | succ m =>
        have hil : i < C.least.length := by have := HI.out; omega
        have hj : (i < C.least.length) = True := eq_true hil
        have hj2 : ((i : Int) < (C.least.length : Int)) = True := eq_true (by omega)
        have hj0 : (0 ≤ (i : Int)) = True := eq_true (by omega)
        have wi : wrap64 ((i : Int) + 1) = ((i + 1 : Nat) : Int) := (IntWalk.wrap64_in _ ⟨by omega, by have := fitL_len HF.out; omega⟩).trans (by omega)
        obtain ⟨ad, gv, eA, hcell0, hga⟩ := row_at HL6.out.2 (List.getElem?_eq_getElem hil)
        subst eA
        obtain ⟨a2, ca2, e2, hle2, hC2⟩ := hga
        rw [e2] at hcell0
        have hp1 : C.least[i].length ≤ 1000000 := fitL_at HF.out (List.getElem_mem hil)
        have etk : C.least.take (i + 1) = C.least.take i ++ [C.least[i]] := (List.take_append_getElem hil).symm
        obtain ⟨p, hp⟩ : ∃ p, C.least[i] = p := ⟨_, rfl⟩
        rw [hp] at hcell0 hle2 hC2 hp1 etk
        have hblt := World.block_lt_of_cell? w6 _ hcell0
        have hcell := (World.cell?_of_block (w := w6) (w' := wr) (HB.out.block _ hblt)).trans hcell0
        have hga' : PermAt wr (.slice a2 p.length ca2) p := ⟨a2, ca2, rfl, hle2, Kd.C_below hC2 HB.out⟩
        have HGA := Aside0.mk hga'
        have HP1 := Aside0.mk hp1
        have HTK := Aside0.mk etk
        clear hp hcell0 hle2 hC2 e2 hga' hp1 etk hblt
        have hal : (C.least.take i).length ≤ 6000 := by have := fitL_len HF.out; rw [List.length_take]; omega
        obtain ⟨acc, hacc⟩ : ∃ acc, C.least.take i = acc := ⟨_, rfl⟩
        rw [hacc] at HO HTK hal
        have HAL := Aside0.mk hal
        obtain ⟨Aq, cq, eo⟩ := Kd.R_slice (Kd.S_R HO.out)
        subst eo
        clear hal hacc
        go_wp2_with (first | ((with_reducible refine gate_builtin (b := .append) (xs := #[.tmp 26, .tmp 29]) rfl ?_); at_builtin; refine Kd.S_append (Kd.slice 3 (Kd.int .i64)) (w0 := w6) w6.heap.size rfl (.tmp 26) (.tmp 29) 22 43 (.slice none 0 0) 24 rfl Try.underlying22 perm_info rfl (by decide) (by omega) (.slice Aq acc.length cq) acc p [.slice A7 p.length c7] (fun b => w6.heap.size ≤ b) (fun b => some b = (Value.slice A7 p.length c7).ownBlock) ?hs ?hx ?hp ?hokp ?hf ?hO ?hB ?hb ?hl ?_; (case hs => rfl); (case hx => rfl); (case hp => exact ⟨_, rfl, Kd.R_tight rfl (Kd.R_lower HR7.out HB.out.size)⟩); (case hokp => exact fun b hb => HN7.out b hb); (case hf => exact fun b hb => Nat.le_trans (Nat.le_trans HB.out.size HB7.out.size) hb); (case hO => exact HS7.out); (case hB => exact below_step HB.out HB7.out); (case hb => exact (below_step HB.out HB7.out).size); (case hl => have := HAL.out; omega); intro v1 w1 ho hb hg hat; have el : (acc ++ [p]).length = acc.length + 1 := (by simp); obtain ⟨A8, c8, e8⟩ := Kd.R_slice (Kd.S_R ho); subst e8; rw [el] at ho ⊢; clear el; have HO1 := Aside0.mk ho; have HB1 := Aside0.mk hb; clear ho hb hg hat) | (go_at_call 61; (refine (clone_perm HGA.out HP1.out).mono ?_); rintro e w7 ⟨v7, rfl, hr7, hb7⟩; obtain ⟨A7, c7, e7⟩ := Kd.R_slice hr7; subst e7; have HR7 := Aside0.mk hr7; have HB7 := Aside0.mk hb7; have HN7 : Aside0 (∀ b, some b = (Value.slice A7 p.length c7).ownBlock → w6.heap.size ≤ b ∧ some b ≠ (Value.slice Aq acc.length cq).ownBlock) := ⟨fun b hb => ⟨Nat.le_trans HB.out.size (Kd.R_base hr7 b hb.symm), fun e => by have h1 := Kd.R_base hr7 b hb.symm; have h2 := Kd.R_lt (Kd.S_R HO.out) b e.symm; omega⟩⟩; have HS7 := Aside0.mk (Kd.S_mono (ok' := fun b => w6.heap.size ≤ b ∧ ¬ some b = (Value.slice A7 p.length c7).ownBlock) (Kd.S_step (w1 := w7) (Kd.S_mono (ok' := fun b => w6.heap.size ≤ b ∧ b < wr.heap.size) (Kd.S_bound HO.out) (fun b hb => ⟨hb.1, hb.2.2.1⟩)) (fun b hb hlt => hb7.block b hb.2)) (fun b hb => ⟨hb.1, fun e => Nat.lt_irrefl b (Nat.lt_of_lt_of_le hb.2 (Kd.R_base hr7 b e.symm))⟩)); clear hr7 hb7))
        go_roundg m
        case measure => exact Nat.lt_succ_self _
        case rel => exact ⟨i + 1, (by first | (rw [wi]; done) | rfl), ⟨by rw [HTK.out]; exact HO1.out⟩, HB1, ⟨by have := HI.out; omega⟩⟩
  · rw [if_neg e0] at h
    obtain ⟨rfl, rfl⟩ : [] = r1 ∧ e1 = r2 := ⟨congrArg Prod.fst (Option.some.inj h), congrArg Prod.snd (Option.some.inj h)⟩
    have q1 : (e1 == 0) = false := beq_eq_false_iff_ne.mpr e0
    have q2 : (e1 != 0) = true := bne_iff_ne.mpr e0
    clear h e0
    go_wp2_with (go_at_call 49; (refine (check_any k (a0, l0) [(a1, l1)] [] e1 (rows := [(a1, (A1, l1.length, c1))]) ⟨rfl, HC0.out, Kd.C_below HG0.out bel0⟩ (one_grp HST.out.2.2 HC1.out (Kd.C_below HG1.out bel0)) (Or.inr ⟨_, rfl⟩) (Nat.le_refl _) (by simp) (by simp) ⟨rfl, by simp, fun h => absurd h (by simp)⟩ (Nat.zero_le _) HK.out).mono ?_); rintro e w5 ⟨rfl, hb5⟩; have hx0 : w5.cell? ⟨w.heap.size, 0, none⟩ = some (.int .i64 a0) := blk_cell ((hb5.block _ (blk_lt HST.out.1)).trans HST.out.1) 0; have hx1 : w5.cell? ⟨w.heap.size, 1, none⟩ = some (.slice A0 l0.length c0) := blk_cell ((hb5.block _ (blk_lt HST.out.1)).trans HST.out.1) 1; have hy0 : w5.cell? ⟨w.heap.size + 1, 0, none⟩ = some (.int .i64 a1) := blk_cell ((hb5.block _ (blk_lt HST.out.2.1)).trans HST.out.2.1) 0; have hy1 : w5.cell? ⟨w.heap.size + 1, 1, none⟩ = some (.slice A1 l1.length c1) := blk_cell ((hb5.block _ (blk_lt HST.out.2.1)).trans HST.out.2.1) 1; have hlt := Nat.lt_of_lt_of_le (blk_lt HST.out.2.1) hb5.size; have hl0 : w.heap.size < w5.heap.size := (by omega); have HB5 : Aside0 (Below w.heap.size w w5) := ⟨below_step (below_alloc (below_alloc (below_alloc (Below.refl _ _) _) _) _) hb5⟩; clear hb5)
    go_ret2
    exact ⟨_, rfl, Kd.S_nil _ _ _ _ _, HB5.out⟩
end Go.Proofs.Ytaaaljifclecnaa.Bs
end
section
/- The walk of coset.Find. -/
namespace Go.Proofs.Ytaaaljifclecnaa.Bs
open Go.RowKit Go.Maps Go.Proofs.YtaaaljifclecnaaW.PrintWords Go.Proofs.YtaaaljifclecnaaW.PrintLast Go.Proofs.YtaaaljifclecnaaW.PrintMore Go.Proofs.Ytaaaljifclecnaa.Plain Go.Proofs.Ytaaaljifclecnaa.PBs
open Go.Proofs.Ytaaaljifclecnaa.PCo (coset_mul.f coset_mul.mono coset_mul.calls coset_key.f coset_key.mono coset_key.calls coset_inverse.f coset_inverse.mono coset_inverse.calls permgroup_Elements.f permgroup_Elements.mono permgroup_Elements.calls)
theorem start4 (w : World) (a b c d : Obj) : ((((w.alloc a).alloc b).alloc c).alloc d).heap[w.heap.size]? = some a ∧ ((((w.alloc a).alloc b).alloc c).alloc d).heap[w.heap.size + 1]? = some b ∧ ((((w.alloc a).alloc b).alloc c).alloc d).heap[w.heap.size + 1 + 1]? = some c ∧ ((((w.alloc a).alloc b).alloc c).alloc d).heap[w.heap.size + 1 + 1 + 1]? = some d := by
  obtain ⟨h1, h2, h3⟩ := start3 w a b c
  have e3 : (((w.alloc a).alloc b).alloc c).heap.size = w.heap.size + 1 + 1 + 1 := by simp
  have h4 := blk_new (((w.alloc a).alloc b).alloc c) d
  rw [e3] at h4
  have hb := below_alloc (Below.refl (((w.alloc a).alloc b).alloc c).heap.size (((w.alloc a).alloc b).alloc c)) d
  exact ⟨(hb.block _ (blk_lt h1)).trans h1, (hb.block _ (blk_lt h2)).trans h2, (hb.block _ (blk_lt h3)).trans h3, h4⟩
def findV (k : Nat) (a0 : Int) (l0 : List (List Int)) (a1 : Int) (l1 : List (List Int)) (p : List Int) : Option (Int × Int) := (checkM k (a0, l0) [(a1, l1)] [p]).bind fun e => if e = 0 then (cosM k a0 l0 a1 l1).bind fun C => (coset_key.f k p).bind fun s => if s.size ≤ 1000 then (if (C.num s).isSome = true then some ((C.num s).getD 0, 0) else some (0, 28)) else none else some (0, e)
end Go.Proofs.Ytaaaljifclecnaa.Bs
end
section
/- The walks of coset's tables. -/
namespace Go.Proofs.Ytaaaljifclecnaa.Bs
open Go.RowKit Go.Maps Go.Proofs.YtaaaljifclecnaaW.PrintWords Go.Proofs.YtaaaljifclecnaaW.PrintLast Go.Proofs.YtaaaljifclecnaaW.PrintMore Go.Proofs.Ytaaaljifclecnaa.Plain Go.Proofs.Ytaaaljifclecnaa.PBs
open Go.Proofs.Ytaaaljifclecnaa.PCo (coset_mul.f coset_mul.mono coset_mul.calls coset_key.f coset_key.mono coset_key.calls coset_inverse.f coset_inverse.mono coset_inverse.calls permgroup_Elements.f permgroup_Elements.mono permgroup_Elements.calls)
def numRow (k : Nat) (C : CosV) (g : List Int → Option (List Int)) : List (List Int) → List Int → Option (List Int)
  | [], acc => some acc
  | q :: r, acc => (g q).bind fun y => (coset_key.f k y).bind fun s => if s.size ≤ 1000 then numRow k C g r (acc ++ [(C.num s).getD 0]) else none
def numRows (k : Nat) (C : CosV) (g : List Int → List Int → Option (List Int)) : List (List Int) → List (List Int) → Option (List (List Int))
  | [], acc => some acc
  | p :: r, acc => (numRow k C (g p) C.least []).bind fun row => numRows k C g r (acc ++ [row])
def prodM (k : Nat) (C : CosV) : Option (List (List Int)) := numRows k C (fun p q => coset_mul.f k p q) C.least []
theorem cos_cells {w : World} {X : Nat} {a b c d : Value} (h : w.heap[X]? = some (.cells #[a, b, c, d] 81 (0, 0))) : w.cell? ⟨X, 0, none⟩ = some a ∧ w.cell? ⟨X, 1, none⟩ = some b ∧ w.cell? ⟨X, 2, none⟩ = some c ∧ w.cell? ⟨X, 3, none⟩ = some d := ⟨blk_cell h 0, blk_cell h 1, blk_cell h 2, blk_cell h 3⟩
theorem cell_keep {w w' : World} {a : Addr} {v : Value} (h : w.cell? a = some v) (hb : Below w.heap.size w w') : w'.cell? a = some v := (World.cell?_of_block (w := w) (w' := w') (hb.block _ (World.block_lt_of_cell? w _ h))).trans h
theorem int_infoC : (Try.prog.info? 3).map (fun i => (i.zero, i.size, i.bytes)) = some (some (.int .i64 0), 1, 8) := by kernel_rfl
theorem ints_infoC : (Try.prog.info? 42).map (fun i => (i.zero, i.size, i.bytes)) = some (some (.slice none 0 0), 1, 24) := by kernel_rfl
set_option maxHeartbeats 16000000 in
set_option maxRecDepth 100000 in
theorem products_any (k : Nat) (C : CosV) (t : List (List Int)) {w : World} {v : Value} (hC : Cos w v C) (hfit : fitL C.least = true) (h : prodM k C = some t) :
    Calls Try.prog 52 #[v] w fun e w' => ∃ v0_ : Value, e = .returned v0_ ∧ Kd.S (Kd.slice 3 (Kd.int .i64)) 42 w' w.heap.size (fun _ => True) v0_ t ∧ Below w.heap.size w w' := by
  have hu2 := Try.underlying81
  have HCV := Aside0.mk hC
  obtain ⟨Ae, ce, Ao, co, Al, cl, b, n, rfl, h1, h2, h3, h4⟩ := hC
  have HL6 := Aside0.mk h3
  have HF := Aside0.mk hfit
  have H := Aside0.mk h
  clear h1 h2 h3 h4 hfit h
  go_enter Try.func52, Try.ntmps52
  obtain ⟨w5, hw5⟩ : ∃ w5 : World, w5 = w.alloc (.cells #[.slice Ae C.els.length ce, .slice Ao C.own.length co, .slice Al C.least.length cl, .map (some b)] 81) := ⟨_, rfl⟩
  have hb5 : Below w.heap.size w w5 := by rw [hw5]; exact below_alloc (Below.refl _ _) _
  have hx5 : w5.heap[w.heap.size]? = some (.cells #[.slice Ae C.els.length ce, .slice Ao C.own.length co, .slice Al C.least.length cl, .map (some b)] 81 (0, 0)) := by rw [hw5]; exact blk_new _ _
  have HB5 := Aside0.mk hb5
  have HX5 := Aside0.mk hx5
  have hc5 : w5.cell? ⟨w.heap.size, 2, none⟩ = some (.slice Al C.least.length cl) := blk_cell hx5 2
  clear hb5 hx5
  go_wp2
  rw [← hw5]
  clear hw5
  go_loopg [12, 3] C.least.length (fun kq v12 v3 w' => ∃ (i : Nat) (acc : List (List Int)), v12 = .int .i64 (i : Int) ∧ Aside0 (Kd.S (Kd.slice 3 (Kd.int .i64)) 42 w' w5.heap.size (fun b => w5.heap.size ≤ b) v3 acc) ∧ Aside0 (Below w5.heap.size w5 w') ∧ Aside0 (numRows k C (fun p q => coset_mul.f k p q) (C.least.drop i) acc = some t) ∧ Aside0 (i + kq = C.least.length ∧ acc.length = i))
  case atStart => exact ⟨0, [], (by first | rfl | (simp; done)), ⟨Kd.S_nil _ _ _ _ _⟩, ⟨Below.refl _ _⟩, H, ⟨by omega, rfl⟩⟩
  case round =>
    clear H hc5
    obtain ⟨i, acc, rfl, HO, HB, HA, HI⟩ := hrel
    have ha := HA.out
    clear HA
    obtain ⟨Aq, cq, eo⟩ := Kd.R_slice (Kd.S_R HO.out)
    subst eo
    cases gk with
    | zero =>
      have hj : (i < C.least.length) = False := eq_false (by have := HI.out; omega)
      have hj2 : ((i : Int) < (C.least.length : Int)) = False := eq_false (by have := HI.out; omega)
      rw [List.drop_eq_nil_of_le (by have := HI.out; omega)] at ha
      obtain rfl : acc = t := Option.some.inj ha
      clear ha
      go_wp2
      go_ret
      exact ⟨_, rfl, Kd.S_mono (Kd.S_lower HO.out HB5.out.size) (fun _ _ => trivial), below_step HB5.out HB.out⟩
    | succ m =>
      have hil : i < C.least.length := by have := HI.out; omega
      have hj : (i < C.least.length) = True := eq_true hil
      have hj2 : ((i : Int) < (C.least.length : Int)) = True := eq_true (by omega)
      have hj0 : (0 ≤ (i : Int)) = True := eq_true (by omega)
      have wi : wrap64 ((i : Int) + 1) = ((i + 1 : Nat) : Int) := (IntWalk.wrap64_in _ ⟨by omega, by have := fitL_len HF.out; omega⟩).trans (by omega)
      have hl6 := HL6.out.2
      obtain ⟨ad, gv, eA, hcell0, hga⟩ := row_at hl6 (List.getElem?_eq_getElem hil)
      subst eA
      obtain ⟨a2, ca2, e2, hle2, hC2⟩ := hga
      rw [e2] at hcell0
      rw [List.drop_eq_getElem_cons hil, numRows] at ha
      obtain ⟨p, hp⟩ : ∃ p, C.least[i] = p := ⟨_, rfl⟩
      rw [hp] at hcell0 hle2 hC2 ha
      replace ha := Option.bind_eq_some_iff.1 ha
      obtain ⟨row, hrow, ha⟩ := ha
      have HROW := Aside0.mk hrow
      have HA := Aside0.mk ha
      have hcell1 := cell_keep hcell0 (below_step HB5.out HB.out)
      have HX := Aside0.mk ((HB.out.block _ (blk_lt HX5.out)).trans HX5.out)
      have hxlt := blk_lt HX.out
      obtain ⟨f0, f1, f2, f3⟩ := cos_cells HX.out
      have HLE2 := Aside0.mk hle2
      have HC2 := Aside0.mk (Kd.C_below hC2 (below_step HB5.out HB.out))
      clear hp hcell0 hle2 hC2 e2 hrow ha
      go_wp2
      clear f0 f1 f2 f3 hxlt
      have HXLT := Aside0.mk (blk_lt HX.out)
      have HCP := HC2
      obtain ⟨w1, hw1⟩ : ∃ x, x = wr := ⟨_, rfl⟩
      subst hw1
      clear hj hj2 hj0
      go_loopg [19, 6] C.least.length (fun kq v19 v6 w' => ∃ (j : Nat) (ra : List Int), v19 = .int .i64 (j : Int) ∧ Aside0 (Kd.R (Kd.int .i64) 3 w' w1.heap.size (fun b => w1.heap.size ≤ b) v6 ra) ∧ Aside0 (Below w1.heap.size w1 w') ∧ Aside0 (numRow k C (fun q => coset_mul.f k p q) (C.least.drop j) ra = some row) ∧ Aside0 (j + kq = C.least.length ∧ ra.length = j))
      case atStart => exact ⟨0, [], (by first | rfl | (simp; done)), ⟨Kd.R_nil _ _ _ _ _⟩, ⟨Below.refl _ _⟩, HROW, ⟨by omega, rfl⟩⟩
      case round =>
        clear HROW
        obtain ⟨j, ra, rfl, HR, HB6, HAR, HJ⟩ := hrel
        have ha := HAR.out
        clear HAR
        obtain ⟨Ar, cr, er⟩ := Kd.R_slice HR.out
        subst er
        cases gk with
        | zero =>
          have hj : (j < C.least.length) = False := eq_false (by have := HJ.out; omega)
          have hj2 : ((j : Int) < (C.least.length : Int)) = False := eq_false (by have := HJ.out; omega)
          rw [List.drop_eq_nil_of_le (by have := HJ.out; omega)] at ha
          obtain rfl : ra = row := Option.some.inj ha
          clear ha
          obtain ⟨A7, eA7⟩ : ∃ x, Ar = x := ⟨_, rfl⟩
          obtain ⟨c7, ec7⟩ : ∃ x, cr = x := ⟨_, rfl⟩
          subst eA7
          subst ec7
          have HR7 := HR
          have HB7 := HB6
          have HN7 : Aside0 (∀ b, some b = (Value.slice Ar ra.length cr).ownBlock → w5.heap.size ≤ b ∧ some b ≠ (Value.slice Aq acc.length cq).ownBlock) := ⟨fun b hb => ⟨Nat.le_trans HB.out.size (Kd.R_base HR.out b hb.symm), fun e => by have h1 := Kd.R_base HR.out b hb.symm; have h2 := Kd.R_lt (Kd.S_R HO.out) b e.symm; omega⟩⟩
          have HS7 := Aside0.mk (Kd.S_mono (ok' := fun b => w5.heap.size ≤ b ∧ ¬ some b = (Value.slice Ar ra.length cr).ownBlock) (Kd.S_step (w1 := wr) (Kd.S_mono (ok' := fun b => w5.heap.size ≤ b ∧ b < w1.heap.size) (Kd.S_bound HO.out) (fun b hb => ⟨hb.1, hb.2.2.1⟩)) (fun b hb hlt => HB6.out.block b hb.2)) (fun b hb => ⟨hb.1, fun e => Nat.lt_irrefl b (Nat.lt_of_lt_of_le hb.2 (Kd.R_base HR.out b e.symm))⟩))
          have HAL : Aside0 (acc.length ≤ 6000) := ⟨by have := HI.out; have := fitL_len HF.out; omega⟩
          go_wp2_with ((with_reducible refine gate_builtin (b := .append) (xs := #[.tmp 32, .tmp 34]) rfl ?_); at_builtin; refine Kd.S_append (Kd.slice 3 (Kd.int .i64)) (w0 := w5) w5.heap.size rfl (.tmp 32) (.tmp 34) 27 42 (.slice none 0 0) 24 rfl Try.underlying27 ints_infoC rfl (by decide) (by omega) (.slice Aq acc.length cq) acc ra [.slice Ar ra.length cr] (fun b => w5.heap.size ≤ b) (fun b => some b = (Value.slice Ar ra.length cr).ownBlock) ?hs ?hx ?hp ?hokp ?hf ?hO ?hB ?hb ?hl ?_; (case hs => rfl); (case hx => rfl); (case hp => exact ⟨_, rfl, Kd.R_tight rfl (Kd.R_lower HR7.out HB.out.size)⟩); (case hokp => exact fun b hb => HN7.out b hb); (case hf => exact fun b hb => Nat.le_trans (Nat.le_trans HB.out.size HB7.out.size) hb); (case hO => exact HS7.out); (case hB => exact below_step HB.out HB7.out); (case hb => exact (below_step HB.out HB7.out).size); (case hl => have := HAL.out; omega); intro v1 wx ho hb hg hat; have el : (acc ++ [ra]).length = acc.length + 1 := (by simp); obtain ⟨A8, c8, e8⟩ := Kd.R_slice (Kd.S_R ho); subst e8; rw [el] at ho ⊢; clear el; have HO1 := Aside0.mk ho; have HB1 := Aside0.mk hb; clear ho hb hg hat)
          go_roundg m
          case measure => exact Nat.lt_succ_self _
          case rel => exact ⟨i + 1, _, (by first | (rw [wi]; done) | rfl), HO1, HB1, HA, ⟨by have := HI.out; omega, by rw [List.length_append, HI.out.2]; rfl⟩⟩
        | succ m2 =>
          have hjl : j < C.least.length := by have := HJ.out; omega
          have hj : (j < C.least.length) = True := eq_true hjl
          have hj2 : ((j : Int) < (C.least.length : Int)) = True := eq_true (by omega)
          have hj0 : (0 ≤ (j : Int)) = True := eq_true (by omega)
          have wj : wrap64 ((j : Int) + 1) = ((j + 1 : Nat) : Int) := (IntWalk.wrap64_in _ ⟨by omega, by have := fitL_len HF.out; omega⟩).trans (by omega)
          obtain ⟨ad', gv, eA, hcell0, hga⟩ := row_at HL6.out.2 (List.getElem?_eq_getElem hjl)
          obtain rfl : ad = ad' := Option.some.inj eA
          obtain ⟨a3, ca3, e2, hle3, hC3⟩ := hga
          rw [e2] at hcell0
          rw [List.drop_eq_getElem_cons hjl, numRow] at ha
          obtain ⟨q, hq⟩ : ∃ q, C.least[j] = q := ⟨_, rfl⟩
          rw [hq] at hcell0 hle3 hC3 ha
          replace ha := Option.bind_eq_some_iff.1 ha
          obtain ⟨y, hy, ha⟩ := ha
          replace ha := Option.bind_eq_some_iff.1 ha
          obtain ⟨s, hks, ha⟩ := ha
          have hss : s.size ≤ 1000 := by
            by_cases e : s.size ≤ 1000
            · exact e
            · rw [if_neg e] at ha; cases ha
          rw [if_pos hss] at ha
          have HY := Aside0.mk hy
          have HKS := Aside0.mk hks
          have HSS := Aside0.mk hss
          have HAR := Aside0.mk ha
          have HLE3 := Aside0.mk hle3
          have HC3 := Aside0.mk (Kd.C_below hC3 (below_step HB5.out (below_step HB.out HB6.out)))
          have HCP := Aside0.mk (Kd.C_below HCP.out HB6.out)
          have HRW := HR
          have HRL : Aside0 (ra.length ≤ 6000) := ⟨by have := HJ.out; have := fitL_len HF.out; omega⟩
          have hcell3 := cell_keep hcell0 (below_step HB5.out (below_step HB.out HB6.out))
          obtain ⟨f0, f1, f2, f3⟩ := cos_cells ((HB6.out.block _ HXLT.out).trans HX.out)
          clear hq hcell0 hle3 hC3 e2 ha hy hks hss eA
          go_wp2
          go_region_law (first
            | (refine Kd.R_append_step (Kd.int .i64) (w0 := w1) w1.heap.size (by rfl) (.tmp 23) (.tmp 29) 42 3 (.int .i64 0) 8 rfl Try.underlying42 int_infoC rfl (by decide) (by omega) (.slice Ar ra.length cr) ra ((C.num s).getD 0) [.int .i64 ((C.num s).getD 0)] (fun b => w1.heap.size ≤ b) (fun _ => False) ?hs ?hx ?hp ?hokp ?hf ?hO ?hB ?hb ?hl ?_; (case hs => exact rfl); (case hx => exact rfl); (case hp => exact rfl); (case hokp => exact fun _ h => h.elim); (case hf => exact fun b hb => Nat.le_trans HB8.out.size hb); (case hO => exact HR8.out); (case hB => exact HB8.out); (case hb => exact HB8.out.size); (case hl => have := HRL.out; omega); intro v1 wx ho hb hg hat; have el : (ra ++ [(C.num s).getD 0]).length = ra.length + 1 := (by simp); obtain ⟨A9, c9, e9⟩ := Kd.R_slice ho; subst e9; rw [el] at ho ⊢; have HR9 := Aside0.mk ho; have HB9 := Aside0.mk hb; clear ho hb hg hat el)
            | (go_simp; go_at_call 54; (refine (coset_mul.calls k a2 ca2 p a3 ca3 q y _ (Kd.C_below HCP.out bel0) HLE2.out (Kd.C_below HC3.out bel0) HLE3.out HY.out).mono ?_); rintro e w7 ⟨v7, rfl, hr7, hb7⟩; have HB7 := Aside0.mk (below_step HB6.out (below_step (w := wr) bel0 hb7)); have HBR7 := Aside0.mk (below_step (w := wr) bel0 hb7); obtain ⟨A7, c7, e7⟩ := Kd.R_slice hr7; subst e7; have HR7 := Aside0.mk hr7; obtain ⟨k0, k1, k2, k3⟩ := cos_cells ((HB7.out.block _ HXLT.out).trans HX.out); have hxl7 := Nat.lt_of_lt_of_le HXLT.out HB7.out.size; clear hr7 hb7)
            | (go_simp; go_at_call 53; (refine (of_any k C y s (HCV.out.below (below_step HB5.out (below_step HB.out (below_step HB7.out bel0)))) (Kd.C_below (Kd.R_reads' HR7.out).2.2 bel0) (Kd.R_reads' HR7.out).2.1 HKS.out HSS.out).mono ?_); rintro e w8 ⟨rfl, hb8⟩; have HB8 := Aside0.mk (below_step HB7.out (below_step (w := w7) bel0 hb8)); have HR8 := Aside0.mk (Kd.R_below HRW.out (below_step (w := wr) HBR7.out (below_step (w := w7) bel0 hb8))); obtain ⟨mm0, mm1, mm2, mm3⟩ := cos_cells ((HB8.out.block _ HXLT.out).trans HX.out); clear hb8))
          all_goals
            go_wp2
            go_roundg m2
            case measure => exact Nat.lt_succ_self _
            case rel => exact ⟨j + 1, _, (by first | (rw [wj]; done) | rfl), HR9, HB9, HAR, ⟨by have := HJ.out; omega, by rw [List.length_append, HJ.out.2]; rfl⟩⟩
end Go.Proofs.Ytaaaljifclecnaa.Bs
end
section
/- coset.DoubleCosets: what it computes, and its rows in memory while it does. -/
namespace Go.Proofs.Ytaaaljifclecnaa.Bs
open Go.RowKit Go.Maps Go.Proofs.YtaaaljifclecnaaW.PrintWords Go.Proofs.YtaaaljifclecnaaW.PrintLast Go.Proofs.YtaaaljifclecnaaW.PrintMore Go.Proofs.Ytaaaljifclecnaa.Plain Go.Proofs.Ytaaaljifclecnaa.PBs
open Go.Proofs.Ytaaaljifclecnaa.PCo (coset_mul.f coset_mul.mono coset_mul.calls coset_key.f coset_key.mono coset_key.calls)
def dblRow (k : Nat) (C : CosV) (p : List Int) : List (List Int) → List Bool → List Int → Option (List Bool × List Int)
  | [], seen, orb => some (seen, orb)
  | q :: r, seen, orb => (coset_mul.f k p q).bind fun y => (coset_key.f k y).bind fun s => if s.size ≤ 1000 ∧ 0 ≤ (C.num s).getD 0 ∧ (C.num s).getD 0 < (seen.length : Int) then (if seen.getD ((C.num s).getD 0).toNat false = true then dblRow k C p r seen orb else dblRow k C p r (seen.set ((C.num s).getD 0).toNat true) (orb ++ [(C.num s).getD 0])) else none
def dblOrb (k : Nat) (C : CosV) (gens : List (List Int)) : Nat → Nat → List Bool → List Int → Option (List Bool × List Int)
  | 0, _, _, _ => none
  | q + 1, j, seen, orb => if j < orb.length then (if 0 ≤ orb.getD j 0 ∧ orb.getD j 0 < (C.least.length : Int) ∧ orb.length < 100000 then (dblRow k C (C.least.getD (orb.getD j 0).toNat []) gens seen orb).bind fun t => dblOrb k C gens q (j + 1) t.1 t.2 else none) else some (seen, orb)
def dblAll (k : Nat) (C : CosV) (gens : List (List Int)) : Nat → List (List Int) → List Bool → List (List Int) → List Int → Option (List (List Int) × List Int)
  | _, [], _, L, Z => some (L, Z)
  | i, p :: r, seen, L, Z => if seen.getD i false = true then dblAll k C gens (i + 1) r seen L Z else (dblOrb k C gens k 0 (seen.set i true) [(i : Int)]).bind fun t => dblAll k C gens (i + 1) r t.1 (L ++ [p]) (Z ++ [wrap64 ((t.2.length : Int) * (C.own.length : Int))])
def doubV (k : Nat) (a0 : Int) (l0 : List (List Int)) (a1 : Int) (l1 : List (List Int)) (a2 : Int) (l2 : List (List Int)) : Option (List (List Int) × List Int × Int) := (checkM k (a0, l0) [(a1, l1), (a2, l2)] []).bind fun e => if e = 0 then (cosM k a0 l0 a1 l1).bind fun C => if fitL C.least = true ∧ l2.length < 1000000 then (dblAll k C l2 0 C.least (List.replicate C.least.length false) [] []).bind fun t => some (t.1, t.2, 0) else none else some ([], [], e)
theorem dblRow_mono (k : Nat) (C : CosV) (p : List Int) : ∀ (l : List (List Int)) (seen : List Bool) (orb : List Int), LeO (dblRow k C p l seen orb) (dblRow (k + 1) C p l seen orb)
  | [], _, _ => LeO.refl _
  | q :: r, seen, orb => LeO.bind (coset_mul.mono _ _ _) (fun _ => LeO.bind (coset_key.mono _ _) (fun _ => LeO.ite (LeO.ite (dblRow_mono k C p r _ _) (dblRow_mono k C p r _ _)) (LeO.refl _)))
theorem dblOrb_mono (k : Nat) (C : CosV) (gens : List (List Int)) : ∀ (q j : Nat) (seen : List Bool) (orb : List Int), LeO (dblOrb k C gens q j seen orb) (dblOrb (k + 1) C gens (q + 1) j seen orb)
  | 0, _, _, _ => fun r h => by cases h
  | q + 1, j, seen, orb => LeO.ite (LeO.ite (LeO.bind (dblRow_mono k C _ gens _ _) (fun _ => dblOrb_mono k C gens q _ _ _)) (LeO.refl _)) (LeO.refl _)
theorem dblAll_mono (k : Nat) (C : CosV) (gens : List (List Int)) : ∀ (l : List (List Int)) (i : Nat) (seen : List Bool) (L : List (List Int)) (Z : List Int), LeO (dblAll k C gens i l seen L Z) (dblAll (k + 1) C gens i l seen L Z)
  | [], _, _, _, _ => LeO.refl _
  | p :: r, i, seen, L, Z => LeO.ite (dblAll_mono k C gens r _ _ _ _) (LeO.bind (dblOrb_mono k C gens k _ _ _) (fun _ => dblAll_mono k C gens r _ _ _ _))
theorem doubV_mono (k : Nat) (a0 : Int) (l0 : List (List Int)) (a1 : Int) (l1 : List (List Int)) (a2 : Int) (l2 : List (List Int)) : LeO (doubV k a0 l0 a1 l1 a2 l2) (doubV (k + 1) a0 l0 a1 l1 a2 l2) :=
  LeO.bind (checkM_mono _ _ _ _) (fun e => LeO.ite (LeO.bind (cosM_mono _ _ _ _ _) (fun C => LeO.ite (LeO.bind (dblAll_mono k C l2 _ _ _ _ _) (fun _ => LeO.refl _)) (LeO.refl _))) (LeO.refl _))
theorem bool_info : (Try.prog.info? 4).map (fun i => (i.zero, i.size, i.bytes)) = some (some (.bool false), 1, 1) := by kernel_rfl
theorem made_bools (W : World) (base m : Nat) (hb : base ≤ W.heap.size) (hm : m ≤ 1000000) : Kd.R Kd.bool 4 (W.alloc (.cells (madeCells #[.bool false] m) 4)) base (fun b => b = W.heap.size) (.slice (some ⟨W.heap.size, 0, none⟩) m m) (List.replicate m false) := by
  have hrep := Kd.reps_made (R := Kd.bool.M W base (fun _ => False)) (z := .bool false) (size := 1) (by rfl) (by omega) (show Kd.bool.M W base (fun _ => False) false [.bool false] from rfl) m
  rw [Nat.mul_one] at hrep
  refine ⟨fun k hk => ?_, (madeCells #[.bool false] m).toList, ?_, ?_⟩
  · have : W.heap.size = k := by simpa [Value.ownBlock] using hk
    exact this.symm
  · have h2 := World.ownsRow_lit (base := base) (e := 4) (size := 1) W (madeCells #[.bool false] m) m hb (by simp only [maxLen]; omega) (by simp [size_madeCells])
    rw [show Kd.bool.sz = 1 from rfl]
    simpa using h2
  · exact hrep.imp_ (fun p c hp => hp)
structure DbAt (W0 : World) (ρ : Nat → Nat) (w : World) (vs vl vz vo : Value) (seen : List Bool) (L : List (List Int)) (Z O : List Int) : Prop where
  bel : Below W0.heap.size W0 w
  fresh : ∀ b, w.heap.size ≤ b → ρ b = 0
  rs : Kd.R Kd.bool 4 w W0.heap.size (fun b => ρ b = 1) vs seen
  rl : Kd.S (Kd.slice 3 (Kd.int .i64)) 43 w W0.heap.size (fun b => ρ b = 2) vl L
  rz : Kd.R (Kd.int .i64) 3 w W0.heap.size (fun b => ρ b = 3) vz Z
  ro : Kd.R (Kd.int .i64) 3 w W0.heap.size (fun b => ρ b = 4) vo O
section
variable {W0 w w' : World} {ρ : Nat → Nat} {vs vl vz vo v' : Value} {seen : List Bool} {L L' : List (List Int)} {Z O Z' O' : List Int}
theorem DbAt.below (h : DbAt W0 ρ w vs vl vz vo seen L Z O) (hb : Below w.heap.size w w') : DbAt W0 ρ w' vs vl vz vo seen L Z O where
  bel := below_then h.bel h.bel.size hb
  fresh := fun b hle => h.fresh b (Nat.le_trans hb.size hle)
  rs := Kd.R_below h.rs hb
  rl := Kd.S_below h.rl hb
  rz := Kd.R_below h.rz hb
  ro := Kd.R_below h.ro hb
def newRole (ρ : Nat → Nat) (a b r : Nat) : Nat → Nat := fun x => if a ≤ x ∧ x < b then r else ρ x
theorem newRole_old {a b r x : Nat} (h : x < a) : newRole ρ a b r x = ρ x := if_neg (by omega)
theorem newRole_fresh {a b r x : Nat} (h : b ≤ x) : newRole ρ a b r x = ρ x := if_neg (by omega)
theorem newRole_new {a b r x : Nat} (h : a ≤ x) (h2 : x < b) : newRole ρ a b r x = r := if_pos ⟨h, h2⟩
theorem newRole_in {a b r x : Nat} (h : ρ x = r ∨ a ≤ x) (h2 : x < b) : newRole ρ a b r x = r := by
  rcases Nat.lt_or_ge x a with h3 | h3
  · rw [newRole_old h3]; exact h.resolve_right (by omega)
  · exact newRole_new h3 h2
theorem DbAt.give (h : DbAt W0 ρ w vs vl vz vo seen L Z O) (hb : Below w.heap.size w w') (r : Nat) : DbAt W0 (newRole ρ w.heap.size w'.heap.size r) w' vs vl vz vo seen L Z O where
  bel := below_then h.bel h.bel.size hb
  fresh := fun b hle => by rw [newRole_fresh hle]; exact h.fresh b (Nat.le_trans hb.size hle)
  rs := Kd.R_mono (Kd.R_below (Kd.R_bound h.rs) hb) (fun b hb2 => (newRole_old hb2.2.2.1).trans hb2.1)
  rl := Kd.S_mono (Kd.S_below (Kd.S_bound h.rl) hb) (fun b hb2 => (newRole_old hb2.2.2.1).trans hb2.1)
  rz := Kd.R_mono (Kd.R_below (Kd.R_bound h.rz) hb) (fun b hb2 => (newRole_old hb2.2.2.1).trans hb2.1)
  ro := Kd.R_mono (Kd.R_below (Kd.R_bound h.ro) hb) (fun b hb2 => (newRole_old hb2.2.2.1).trans hb2.1)
theorem DbAt.see {g n cap : Nat} (h : DbAt W0 ρ w (.slice (some ⟨g, 0, none⟩) n cap) vl vz vo seen L Z O) (i : Nat) (hi : i < n) : DbAt W0 ρ (w.setCell ⟨g, i, none⟩ (.bool true)) (.slice (some ⟨g, 0, none⟩) n cap) vl vz vo (seen.set i true) L Z O := by
  have hg : ρ g = 1 := h.rs.1 g rfl
  have hp := (Kd.R_putg h.rs (i : Int) true).1
  rw [Int.toNat_natCast] at hp
  have hbase := Kd.R_base h.rs g rfl
  exact {
    bel := ⟨h.bel.os, h.bel.tape, h.bel.output, by rw [World.size_setCell]; exact h.bel.size, fun k hk => (Below.heap_setCell w ⟨g, i, none⟩ _ k (by show k ≠ g; omega)).trans (h.bel.block k hk)⟩
    fresh := fun b hle => h.fresh b (by rw [World.size_setCell] at hle; exact hle)
    rs := hp
    rl := Kd.S_far h.rl (fun k hk => by show k ≠ g; rintro rfl; omega) _
    rz := Kd.R_far (p := ⟨g, i, none⟩) h.rz (fun k hk => by show k ≠ g; rintro rfl; omega) _
    ro := Kd.R_far (p := ⟨g, i, none⟩) h.ro (fun k hk => by show k ≠ g; rintro rfl; omega) _ }
theorem DbAt.orbit (h : DbAt W0 ρ w vs vl vz vo seen L Z O) {row : Option Nat} (hrow : ∀ b, row = some b → ρ b = 4 ∧ W0.heap.size ≤ b) (hR : Kd.R (Kd.int .i64) 3 w' W0.heap.size (fun b => ρ b = 4 ∨ w.heap.size ≤ b) v' O') (hg : w.grownBy w' row) : DbAt W0 (newRole ρ w.heap.size w'.heap.size 4) w' vs vl vz v' seen L Z O' where
  bel := pw_below_grown h.bel row h.bel.size hg (fun b e => (hrow b e).2)
  fresh := fun b hle => by rw [newRole_fresh hle]; exact h.fresh b (Nat.le_trans hg.size hle)
  rs := Kd.R_mono (Kd.R_grown (Kd.R_bound h.rs) hg (fun b hb2 e => by have := (hrow b e.symm).1; have := hb2.1; omega)) (fun b hb2 => (newRole_old hb2.2.2.1).trans hb2.1)
  rl := Kd.S_mono (Kd.S_grown (Kd.S_bound h.rl) hg (fun b hb2 e => by have := (hrow b e.symm).1; have := hb2.1; omega)) (fun b hb2 => (newRole_old hb2.2.2.1).trans hb2.1)
  rz := Kd.R_mono (Kd.R_grown (Kd.R_bound h.rz) hg (fun b hb2 e => by have := (hrow b e.symm).1; have := hb2.1; omega)) (fun b hb2 => (newRole_old hb2.2.2.1).trans hb2.1)
  ro := Kd.R_mono (Kd.R_bound hR) (fun b hb2 => newRole_in hb2.1 hb2.2.2.1)
theorem DbAt.sizes (h : DbAt W0 ρ w vs vl vz vo seen L Z O) (hR : Kd.R (Kd.int .i64) 3 w' W0.heap.size (fun b => ρ b = 3 ∨ w.heap.size ≤ b) v' Z') (hg : w.grownBy w' vz.ownBlock) : DbAt W0 (newRole ρ w.heap.size w'.heap.size 3) w' vs vl v' vo seen L Z' O := by
  have hrow : ∀ b, vz.ownBlock = some b → ρ b = 3 ∧ W0.heap.size ≤ b := fun b e => ⟨h.rz.1 b e, Kd.R_base h.rz b e⟩
  exact {
    bel := pw_below_grown h.bel vz.ownBlock h.bel.size hg (fun b e => (hrow b e).2)
    fresh := fun b hle => by rw [newRole_fresh hle]; exact h.fresh b (Nat.le_trans hg.size hle)
    rs := Kd.R_mono (Kd.R_grown (Kd.R_bound h.rs) hg (fun b hb2 e => by have := (hrow b e.symm).1; have := hb2.1; omega)) (fun b hb2 => (newRole_old hb2.2.2.1).trans hb2.1)
    rl := Kd.S_mono (Kd.S_grown (Kd.S_bound h.rl) hg (fun b hb2 e => by have := (hrow b e.symm).1; have := hb2.1; omega)) (fun b hb2 => (newRole_old hb2.2.2.1).trans hb2.1)
    rz := Kd.R_mono (Kd.R_bound hR) (fun b hb2 => newRole_in hb2.1 hb2.2.2.1)
    ro := Kd.R_mono (Kd.R_grown (Kd.R_bound h.ro) hg (fun b hb2 e => by have := (hrow b e.symm).1; have := hb2.1; omega)) (fun b hb2 => (newRole_old hb2.2.2.1).trans hb2.1) }
theorem DbAt.leasts (h : DbAt W0 ρ w vs vl vz vo seen L Z O) (hR : Kd.S (Kd.slice 3 (Kd.int .i64)) 43 w' W0.heap.size (fun b => ρ b = 2 ∨ w.heap.size ≤ b) v' L') (hg : w.grownBy w' vl.ownBlock) : DbAt W0 (newRole ρ w.heap.size w'.heap.size 2) w' vs v' vz vo seen L' Z O := by
  have hrow : ∀ b, vl.ownBlock = some b → ρ b = 2 ∧ W0.heap.size ≤ b := fun b e => ⟨(Kd.S_R h.rl).1 b e, Kd.S_base h.rl b e⟩
  exact {
    bel := pw_below_grown h.bel vl.ownBlock h.bel.size hg (fun b e => (hrow b e).2)
    fresh := fun b hle => by rw [newRole_fresh hle]; exact h.fresh b (Nat.le_trans hg.size hle)
    rs := Kd.R_mono (Kd.R_grown (Kd.R_bound h.rs) hg (fun b hb2 e => by have := (hrow b e.symm).1; have := hb2.1; omega)) (fun b hb2 => (newRole_old hb2.2.2.1).trans hb2.1)
    rl := Kd.S_mono (Kd.S_bound hR) (fun b hb2 => newRole_in hb2.1 hb2.2.2.1)
    rz := Kd.R_mono (Kd.R_grown (Kd.R_bound h.rz) hg (fun b hb2 e => by have := (hrow b e.symm).1; have := hb2.1; omega)) (fun b hb2 => (newRole_old hb2.2.2.1).trans hb2.1)
    ro := Kd.R_mono (Kd.R_grown (Kd.R_bound h.ro) hg (fun b hb2 e => by have := (hrow b e.symm).1; have := hb2.1; omega)) (fun b hb2 => (newRole_old hb2.2.2.1).trans hb2.1) }
theorem DbAt.start {m : Nat} (hm : m ≤ 1000000) : DbAt W0 (newRole (fun _ => 0) W0.heap.size (W0.heap.size + 1) 1) (W0.alloc (.cells (madeCells #[.bool false] m) 4)) (.slice (some ⟨W0.heap.size, 0, none⟩) m m) (.slice none 0 0) (.slice none 0 0) (.slice none 0 0) (List.replicate m false) [] [] [] where
  bel := below_alloc (Below.refl _ _) _
  fresh := fun b hle => by rw [newRole_fresh (by simpa using hle)]
  rs := Kd.R_mono (made_bools W0 W0.heap.size m (Nat.le_refl _) hm) (fun b hb => newRole_new (by omega) (by omega))
  rl := Kd.S_nil _ _ _ _ _
  rz := Kd.R_nil _ _ _ _ _
  ro := Kd.R_nil _ _ _ _ _
end
theorem two_grp {w : World} {b : Nat} {n m : Int} {A B : Option Addr} {c d : Nat} {L M : List (List Int)} (hcell : w.heap[b]? = some (.cells #[.int .i64 n, .slice A L.length c, .int .i64 m, .slice B M.length d] 24 (0, 0))) (hc : L.length ≤ c) (hr : Kd.C (Kd.slice 3 (Kd.int .i64)) w A L.length L) (hd : M.length ≤ d) (hs : Kd.C (Kd.slice 3 (Kd.int .i64)) w B M.length M) : GrpsAt w (some ⟨b, 0, none⟩) [(n, (A, L.length, c)), (m, (B, M.length, d))] [(n, L), (m, M)] := by
  refine ⟨rfl, ⟨rfl, by simp, fun _ => ⟨_, rfl, fun j x hj => ?_⟩⟩, fun j r g h1 h2 => ?_⟩
  · match j, hj with
    | 0, hj =>
      obtain rfl := Option.some.inj hj
      refine ⟨[.int .i64 n, .slice A L.length c], rfl, ⟨[.int .i64 n], [.slice A L.length c], rfl, rfl, rfl⟩, fun i x hi => ?_⟩
      have e : ∀ i, (⟨b, 0, none⟩ : Addr).add (0 * kg.sz + i) = ⟨b, i, none⟩ := fun i => by simp [Addr.add]; try (intro h; exact h.symm)
      rw [e]
      match i, hi with
      | 0, hi => obtain rfl := Option.some.inj hi; exact blk_cell hcell 0
      | 1, hi => obtain rfl := Option.some.inj hi; exact blk_cell hcell 1
      | i + 2, hi => simp at hi
    | 1, hj =>
      obtain rfl := Option.some.inj hj
      refine ⟨[.int .i64 m, .slice B M.length d], rfl, ⟨[.int .i64 m], [.slice B M.length d], rfl, rfl, rfl⟩, fun i x hi => ?_⟩
      have e : ∀ i, (⟨b, 0, none⟩ : Addr).add (1 * kg.sz + i) = ⟨b, 2 + i, none⟩ := fun i => by
        have : kg.sz = 2 := rfl
        rw [this]; simp [Addr.add]; try (intro h; exact h.symm)
      rw [e]
      match i, hi with
      | 0, hi => obtain rfl := Option.some.inj hi; exact blk_cell hcell 2
      | 1, hi => obtain rfl := Option.some.inj hi; exact blk_cell hcell 3
      | i + 2, hi => simp at hi
    | j + 2, hj => simp at hj
  · match j, h1, h2 with
    | 0, h1, h2 =>
      obtain rfl := Option.some.inj h1
      obtain rfl := Option.some.inj h2
      exact ⟨rfl, rfl, hc, hr⟩
    | 1, h1, h2 =>
      obtain rfl := Option.some.inj h1
      obtain rfl := Option.some.inj h2
      exact ⟨rfl, rfl, hd, hs⟩
    | j + 2, h1, h2 => simp at h1
end Go.Proofs.Ytaaaljifclecnaa.Bs
end
section
/- galoisref27.DoubleCosets: what it computes, and its rows in memory while it does. -/
namespace Go.Proofs.Ytaaaljifclecnaa.Bs
open Go.RowKit Go.Proofs.YtaaaljifclecnaaW.PrintWords Go.Proofs.YtaaaljifclecnaaW.PrintLast Go.Proofs.YtaaaljifclecnaaW.PrintMore Go.Proofs.Ytaaaljifclecnaa.Plain Go.Proofs.Ytaaaljifclecnaa.PBs
open Go.Proofs.Ytaaaljifclecnaa.PRf (galoisref23_Place.f galoisref23_Place.mono galoisref23_Has.f galoisref23_Has.mono)
def seenIn (k : Nat) : List (List Int) → List (List Int) → Option (List (List Int))
  | [], s => some s
  | p :: r, s => (galoisref23_Place.f k s p).bind fun a => if 0 ≤ a ∧ a ≤ (s.length : Int) ∧ s.length < 1000 then seenIn k r (s.take a.toNat ++ p :: s.drop a.toNat) else none
def ddOut (k : Nat) (h ks : List (List Int)) : List (List Int) → List (List Int) → List (List Int) → List Int → Option (List (List Int) × List Int)
  | [], s, R, Z => some (R, Z)
  | p :: r, s, R, Z => (galoisref23_Has.f k s p).bind fun b => if b = true then ddOut k h ks r s R Z else (galoisref27_Double.f k h ks p).bind fun l => (seenIn k l s).bind fun s' => if R.length < 1000 ∧ Z.length < 1000 then ddOut k h ks r s' (R ++ [p]) (Z ++ [(l.length : Int)]) else none
theorem seenIn_mono (k : Nat) : ∀ (l s : List (List Int)), LeO (seenIn k l s) (seenIn (k + 1) l s)
  | [], s => LeO.refl _
  | p :: r, s => LeO.bind (galoisref23_Place.mono _ _ _) (fun _ => LeO.ite (seenIn_mono k r _) (LeO.refl _))
theorem ddOut_mono (k : Nat) (h ks : List (List Int)) : ∀ (l s R : List (List Int)) (Z : List Int), LeO (ddOut k h ks l s R Z) (ddOut (k + 1) h ks l s R Z)
  | [], s, R, Z => LeO.refl _
  | p :: r, s, R, Z => LeO.bind (galoisref23_Has.mono _ _ _) (fun _ => LeO.ite (ddOut_mono k h ks r _ _ _) (LeO.bind (galoisref27_Double.mono _ _ _ _) (fun _ => LeO.bind (seenIn_mono k _ _) (fun _ => LeO.ite (ddOut_mono k h ks r _ _ _) (LeO.refl _)))))
def galoisref27_DoubleCosets.f (k : Nat) (g h ks : List (List Int)) : Option (List (List Int) × List Int) := ddOut k h ks g [] [] []
theorem galoisref27_DoubleCosets.mono : ∀ g h ks k, LeO (galoisref27_DoubleCosets.f k g h ks) (galoisref27_DoubleCosets.f (k + 1) g h ks) := fun g h ks k => ddOut_mono k h ks g [] [] []
def okN (W0 : World) (P : Nat → Prop) (ρ : Nat → Nat) (b : Nat) : Prop := ρ b = 4 ∨ (P b ∧ b < W0.heap.size)
structure DdAt (W0 : World) (P : Nat → Prop) (ρ : Nat → Nat) (w : World) (vr vz vs : Value) (R : List (List Int)) (Z : List Int) (svs : List Sv) (s : List (List Int)) : Prop where
  bel : Below W0.heap.size W0 w
  fresh : ∀ b, w.heap.size ≤ b → ρ b = 0
  old : ∀ b, b < W0.heap.size → ρ b = 0
  len : svs.length = s.length
  rs : Kd.R kv 43 w W0.heap.size (fun b => ρ b = 1) vs svs
  inn : ∀ (i : Nat) (sv : Sv) (p : List Int), svs[i]? = some sv → s[i]? = some p → Kd.V (Kd.int .i64) 3 w W0.heap.size (fun b => ρ b = 2) (svE sv) p
  rz : Kd.R (Kd.int .i64) 3 w W0.heap.size (fun b => ρ b = 3) vz Z
  rr : Kd.N (Kd.slice 3 (Kd.int .i64)) 43 w W0.heap.size (okN W0 P ρ) vr R
section
variable {W0 w w' : World} {P : Nat → Prop} {ρ : Nat → Nat} {vr vz vs v' : Value} {R R' s s' : List (List Int)} {Z Z' : List Int} {svs svs' : List Sv}
theorem DdAt.below (h : DdAt W0 P ρ w vr vz vs R Z svs s) (hb : Below w.heap.size w w') : DdAt W0 P ρ w' vr vz vs R Z svs s where
  bel := below_then h.bel h.bel.size hb
  fresh := fun b hle => h.fresh b (Nat.le_trans hb.size hle)
  old := h.old
  len := h.len
  rs := Kd.R_below h.rs hb
  inn := fun i sv p h1 h2 => Kd.V_below (h.inn i sv p h1 h2) hb
  rz := Kd.R_below h.rz hb
  rr := Kd.N_below h.rr hb
theorem DdAt.give (h : DdAt W0 P ρ w vr vz vs R Z svs s) (hb : Below w.heap.size w w') (r : Nat) : DdAt W0 P (newRole ρ w.heap.size w'.heap.size r) w' vr vz vs R Z svs s where
  bel := below_then h.bel h.bel.size hb
  fresh := fun b hle => by rw [newRole_fresh hle]; exact h.fresh b (Nat.le_trans hb.size hle)
  old := fun b hb2 => by rw [newRole_old (Nat.lt_of_lt_of_le hb2 h.bel.size)]; exact h.old b hb2
  len := h.len
  rs := Kd.R_mono (Kd.R_below (Kd.R_bound h.rs) hb) (fun b hb2 => (newRole_old hb2.2.2.1).trans hb2.1)
  inn := fun i sv p h1 h2 => Kd.V_mono (Kd.V_below (Kd.V_bound (h.inn i sv p h1 h2)) hb) (fun b hb2 => (newRole_old hb2.2).trans hb2.1)
  rz := Kd.R_mono (Kd.R_below (Kd.R_bound h.rz) hb) (fun b hb2 => (newRole_old hb2.2.2.1).trans hb2.1)
  rr := Kd.N_mono (Kd.N_below (Kd.N_bound h.rr) hb) (fun b hb2 => hb2.1.imp (fun e => (newRole_old hb2.2).trans e) id)
theorem DdAt.rest (h : DdAt W0 P ρ w vr vz vs R Z svs s) {row : Option Nat} {r : Nat} (hr : r ≠ 0) (hrow : ∀ b, row = some b → ρ b = r) (hg : w.grownBy w' row) : Below W0.heap.size W0 w' ∧ (∀ b, w'.heap.size ≤ b → newRole ρ w.heap.size w'.heap.size r b = 0) ∧ (∀ b, b < W0.heap.size → newRole ρ w.heap.size w'.heap.size r b = 0) ∧
    (r ≠ 1 → Kd.R kv 43 w' W0.heap.size (fun b => newRole ρ w.heap.size w'.heap.size r b = 1) vs svs) ∧
    (r ≠ 2 → ∀ (i : Nat) (sv : Sv) (p : List Int), svs[i]? = some sv → s[i]? = some p → Kd.V (Kd.int .i64) 3 w' W0.heap.size (fun b => newRole ρ w.heap.size w'.heap.size r b = 2) (svE sv) p) ∧
    (r ≠ 3 → Kd.R (Kd.int .i64) 3 w' W0.heap.size (fun b => newRole ρ w.heap.size w'.heap.size r b = 3) vz Z) ∧
    (r ≠ 4 → Kd.N (Kd.slice 3 (Kd.int .i64)) 43 w' W0.heap.size (okN W0 P (newRole ρ w.heap.size w'.heap.size r)) vr R) := by
  have hne : ∀ b r2, ρ b = r2 → r2 ≠ r → some b ≠ row := fun b r2 h1 h2 e => h2 (h1 ▸ hrow b e.symm)
  refine ⟨pw_below_grown h.bel row h.bel.size hg (fun b e => ?_), fun b hle => ?_, fun b hlt => ?_, fun h1 => ?_, fun h1 i sv p a1 a2 => ?_, fun h1 => ?_, fun h1 => ?_⟩
  · rcases Nat.lt_or_ge b W0.heap.size with h2 | h2
    · exact absurd ((hrow b e).symm.trans (h.old b h2)) hr
    · exact h2
  · rw [newRole_fresh hle]; exact h.fresh b (Nat.le_trans hg.size hle)
  · rw [newRole_old (Nat.lt_of_lt_of_le hlt h.bel.size)]; exact h.old b hlt
  · exact Kd.R_mono (Kd.R_grown (Kd.R_bound h.rs) hg (fun b hb2 => hne b 1 hb2.1 (fun e => h1 e.symm))) (fun b hb2 => (newRole_old hb2.2.2.1).trans hb2.1)
  · exact Kd.V_mono (Kd.V_grown (Kd.V_bound (h.inn i sv p a1 a2)) hg (fun b hb2 => hne b 2 hb2.1 (fun e => h1 e.symm))) (fun b hb2 => (newRole_old hb2.2).trans hb2.1)
  · exact Kd.R_mono (Kd.R_grown (Kd.R_bound h.rz) hg (fun b hb2 => hne b 3 hb2.1 (fun e => h1 e.symm))) (fun b hb2 => (newRole_old hb2.2.2.1).trans hb2.1)
  · refine Kd.N_mono (Kd.N_step (Kd.N_bound h.rr) (fun b hb2 hlt => hg.block b hlt ?_)) (fun b hb2 => hb2.1.imp (fun e => (newRole_old hb2.2).trans e) id)
    rcases hb2.1 with e | e
    · exact hne b 4 e (fun e => h1 e.symm)
    · exact hne b 0 (h.old b e.2) (fun e => hr e.symm)
theorem DdAt.put (h : DdAt W0 P ρ w vr vz vs R Z svs s) (hR : Kd.R kv 43 w' W0.heap.size (fun b => ρ b = 1 ∨ w.heap.size ≤ b) v' svs') (hg : w.grownBy w' vs.ownBlock) (hl : svs'.length = s'.length) (hin : ∀ (i : Nat) (sv : Sv) (p : List Int), svs'[i]? = some sv → s'[i]? = some p → Kd.V (Kd.int .i64) 3 w W0.heap.size (fun b => ρ b = 2) (svE sv) p) : DdAt W0 P (newRole ρ w.heap.size w'.heap.size 1) w' vr vz v' R Z svs' s' := by
  obtain ⟨g1, g2, g3, g4, g5, g6, g7⟩ := h.rest (r := 1) (by decide) (fun b e => h.rs.1 b e) hg
  exact {
    bel := g1
    fresh := g2
    old := g3
    len := hl
    rs := Kd.R_mono (Kd.R_bound hR) (fun b hb2 => newRole_in hb2.1 hb2.2.2.1)
    inn := fun i sv p a1 a2 => Kd.V_mono (Kd.V_grown (Kd.V_bound (hin i sv p a1 a2)) hg (fun b hb2 e => by have := h.rs.1 b e.symm; have := hb2.1; omega)) (fun b hb2 => (newRole_old hb2.2).trans hb2.1)
    rz := g6 (by decide)
    rr := g7 (by decide) }
theorem DdAt.lens (h : DdAt W0 P ρ w vr vz vs R Z svs s) (hR : Kd.R (Kd.int .i64) 3 w' W0.heap.size (fun b => ρ b = 3 ∨ w.heap.size ≤ b) v' Z') (hg : w.grownBy w' vz.ownBlock) : DdAt W0 P (newRole ρ w.heap.size w'.heap.size 3) w' vr v' vs R Z' svs s := by
  obtain ⟨g1, g2, g3, g4, g5, g6, g7⟩ := h.rest (r := 3) (by decide) (fun b e => h.rz.1 b e) hg
  exact {
    bel := g1
    fresh := g2
    old := g3
    len := h.len
    rs := g4 (by decide)
    inn := g5 (by decide)
    rz := Kd.R_mono (Kd.R_bound hR) (fun b hb2 => newRole_in hb2.1 hb2.2.2.1)
    rr := g7 (by decide) }
theorem DdAt.firsts (h : DdAt W0 P ρ w vr vz vs R Z svs s) (hrow : ∀ b, vr.ownBlock = some b → ρ b = 4) (hR : Kd.N (Kd.slice 3 (Kd.int .i64)) 43 w' W0.heap.size (fun b => okN W0 P ρ b ∨ w.heap.size ≤ b) v' R') (hg : w.grownBy w' vr.ownBlock) : DdAt W0 P (newRole ρ w.heap.size w'.heap.size 4) w' v' vz vs R' Z svs s := by
  obtain ⟨g1, g2, g3, g4, g5, g6, g7⟩ := h.rest (r := 4) (by decide) hrow hg
  exact {
    bel := g1
    fresh := g2
    old := g3
    len := h.len
    rs := g4 (by decide)
    inn := g5 (by decide)
    rz := g6 (by decide)
    rr := Kd.N_mono (Kd.N_bound hR) (fun b hb2 => by
      rcases hb2.1 with (e | e) | e
      · exact .inl (newRole_in (.inl e) hb2.2)
      · exact .inr e
      · exact .inl (newRole_new e hb2.2)) }
theorem DdAt.reads {A : Option Addr} {n c : Nat} (h : DdAt W0 P ρ w vr vz (.slice A n c) R Z svs s) : Kd.C (Kd.slice 3 (Kd.int .i64)) w A s.length s :=
  C_of_kv h.rs h.len (fun j sv p h1 h2 => by
    obtain ⟨s1, s2, s3⟩ := sv
    have hv := h.inn j _ p h1 h2
    obtain ⟨A', c', e, hl, hf⟩ := hv
    exact ⟨A', c', e, hl, Kd.F_now hf⟩)
theorem DdAt.start (W0 : World) (P : Nat → Prop) : DdAt W0 P (fun _ => 0) W0 (.slice none 0 0) (.slice none 0 0) (.slice none 0 0) [] [] [] [] where
  bel := Below.refl _ _
  fresh := fun _ _ => rfl
  old := fun _ _ => rfl
  len := rfl
  rs := Kd.R_nil _ _ _ _ _
  inn := fun i sv p h => by simp at h
  rz := Kd.R_nil _ _ _ _ _
  rr := Kd.N_nil _ _ _ _ _
end
end Go.Proofs.Ytaaaljifclecnaa.Bs
end
section
/- The walk of galoisref27.DoubleCosets. -/
namespace Go.Proofs.Ytaaaljifclecnaa.Bs
open Go.RowKit Go.Proofs.YtaaaljifclecnaaW.PrintWords Go.Proofs.YtaaaljifclecnaaW.PrintLast Go.Proofs.YtaaaljifclecnaaW.PrintMore Go.Proofs.Ytaaaljifclecnaa.Plain Go.Proofs.Ytaaaljifclecnaa.PBs
open Go.Proofs.Ytaaaljifclecnaa.PRf (galoisref23_Place.f galoisref23_Place.mono galoisref23_Place.calls galoisref23_Has.f galoisref23_Has.mono galoisref23_Has.calls)
theorem ins_get {α β : Type} {a : List α} {b : List β} (hl : a.length = b.length) {kk : Nat} (hk : kk ≤ a.length) (x : α) (y : β) {i : Nat} {u : α} {v : β} (h1 : (a.take kk ++ x :: a.drop kk)[i]? = some u) (h2 : (b.take kk ++ y :: b.drop kk)[i]? = some v) : (u = x ∧ v = y) ∨ ∃ j : Nat, a[j]? = some u ∧ b[j]? = some v := by
  have la : (a.take kk).length = kk := by rw [List.length_take]; omega
  have lb : (b.take kk).length = kk := by rw [List.length_take]; omega
  rcases Nat.lt_or_ge i kk with h | h
  · rw [List.getElem?_append_left (by omega), List.getElem?_take, if_pos h] at h1 h2
    exact .inr ⟨i, h1, h2⟩
  · rw [List.getElem?_append_right (by omega)] at h1 h2
    rw [la] at h1
    rw [lb] at h2
    rcases Nat.eq_or_lt_of_le h with e | e
    · subst e
      rw [Nat.sub_self] at h1 h2
      exact .inl ⟨(Option.some.inj h1).symm, (Option.some.inj h2).symm⟩
    · obtain ⟨d, hd⟩ : ∃ d, i - kk = d + 1 := ⟨i - kk - 1, by omega⟩
      rw [hd, List.getElem?_cons_succ, List.getElem?_drop] at h1 h2
      exact .inr ⟨kk + d, h1, h2⟩
theorem V_rowN {W : World} {e base : Nat} {ok : Nat → Prop} {A : Option Addr} {c : Nat} {l : List (List Int)} (h : Kd.V (Kd.slice 3 (Kd.int .i64)) e W base ok (.slice A l.length c) l) {i : Nat} (hi : i < l.length) : ∃ ad A2 c2, A = some ad ∧ W.cell? (ad.add i) = some (.slice A2 l[i].length c2) ∧ l[i].length ≤ c2 ∧ Kd.C (Kd.int .i64) W A2 l[i].length l[i] ∧ Kd.V (Kd.int .i64) 3 W base ok (.slice A2 l[i].length c2) l[i] := by
  have e1 : rd_L1 l (i : Int) = l[i] := by
    show l.getD i [] = _
    rw [List.getD_eq_getElem?_getD, List.getElem?_eq_getElem hi]; rfl
  obtain ⟨ad, A2, c2, h1, h2, h3, h4, h5⟩ := V_row h (i : Int) (by omega) (by omega)
  rw [e1] at h2 h3 h4 h5
  exact ⟨ad, A2, c2, h1, h2, h3, h4, h5⟩
set_option maxHeartbeats 16000000 in
set_option maxRecDepth 100000 in
theorem galoisref27_DoubleCosets.calls (k : Nat) (P0_ : Nat → Prop) (A0 : Option Addr) (c0 : Nat) (l0 : List (List Int)) (A1 : Option Addr) (c1 : Nat) (l1 : List (List Int)) (A2 : Option Addr) (c2 : Nat) (l2 : List (List Int)) (r1 : List (List Int)) (r2 : List Int) (w : World) (hs0 : Kd.V (Kd.slice 3 (Kd.int .i64)) 43 w w.heap.size (fun k_ => P0_ k_) (.slice A0 l0.length c0) l0) (hr1 : Kd.C (Kd.slice 3 (Kd.int .i64)) w A1 l1.length l1) (hc1 : l1.length ≤ c1) (hr2 : Kd.C (Kd.slice 3 (Kd.int .i64)) w A2 l2.length l2) (hc2 : l2.length ≤ c2) (h : galoisref27_DoubleCosets.f k l0 l1 l2 = some (r1, r2)) :
    Calls Try.prog 31 #[.slice A0 l0.length c0, .slice A1 l1.length c1, .slice A2 l2.length c2] w fun e w' => ∃ v0_ v1_ : Value, e = .returned (.tuple #[v0_, v1_]) ∧ Kd.N (Kd.slice 3 (Kd.int .i64)) 43 w' w.heap.size (fun k_ => (P0_ k_ ∨ w.heap.size ≤ k_) ∧ some k_ ≠ (v1_ : Value).ownBlock) v0_ r1 ∧ Kd.R (Kd.int .i64) 3 w' w.heap.size (fun _ => True) v1_ r2 ∧ Below w.heap.size w w' := by
  have HG := Aside0.mk (Kd.V_bound hs0)
  have HGC := Aside0.mk (Kd.V_reads' hs0).2.2
  have HGL := Aside0.mk (Kd.V_reads' hs0).2.1
  have H1 := Aside0.mk hr1
  have H1L := Aside0.mk hc1
  have H2 := Aside0.mk hr2
  have H2L := Aside0.mk hc2
  unfold galoisref27_DoubleCosets.f at h
  have H := Aside0.mk h
  clear hr1 hc1 hr2 hc2 h hs0
  go_enter Try.func31, Try.ntmps31
  go_wp2
  go_loopg [8, 9, 10, 11] l0.length (fun kq v8 v9 v10 v11 w' => ∃ (ρ : Nat → Nat) (R : List (List Int)) (Z : List Int) (svs : List Sv) (s : List (List Int)) (i : Nat) (vr vz vs : Value), vr = v8 ∧ vz = v9 ∧ vs = v10 ∧ v11 = .int .i64 (i : Int) ∧ Aside0 (DdAt w P0_ ρ w' vr vz vs R Z svs s) ∧ Aside0 (∀ b, vr.ownBlock = some b → ρ b = 4) ∧ Aside0 (ddOut k l1 l2 (l0.drop i) s R Z = some (r1, r2)) ∧ Aside0 (i + kq = l0.length))
  case atStart => exact ⟨fun _ => 0, [], [], [], [], 0, _, _, _, rfl, rfl, rfl, (by first | rfl | (simp; done)), ⟨DdAt.start w P0_⟩, ⟨fun b h => by cases h⟩, H, ⟨by omega⟩⟩
  case round =>
    clear H
    obtain ⟨ρ, R, Z, svs, s, i, vr, vz, vs, rfl, rfl, rfl, rfl, HD, HV, HA, HM⟩ := hrel
    have h := HA.out
    clear HA
    obtain ⟨As, cs, es⟩ := Kd.R_slice HD.out.rs
    cases gk with
    | zero =>
      have hj : (i < l0.length) = False := eq_false (by have := HM.out; omega)
      have hj2 : ((i : Int) < (l0.length : Int)) = False := eq_false (by have := HM.out; omega)
      rw [List.drop_eq_nil_of_le (by have := HM.out; omega)] at h
      obtain ⟨rfl, rfl⟩ : R = r1 ∧ Z = r2 := ⟨congrArg Prod.fst (Option.some.inj h), congrArg Prod.snd (Option.some.inj h)⟩
      clear h es
      go_wp2
      go_ret2
      refine ⟨_, _, rfl, Kd.N_mono HD.out.rr (fun b hb => ⟨?_, fun e => ?_⟩), Kd.R_mono HD.out.rz (fun _ _ => trivial), HD.out.bel⟩
      · rcases hb with e | e
        · refine .inr (Nat.le_of_not_lt fun hlt => ?_)
          have := HD.out.old b hlt
          omega
        · exact .inl e.1
      · have h3 := HD.out.rz.1 b e.symm
        rcases hb with e4 | e4
        · omega
        · have := HD.out.old b e4.2; omega
    | succ m =>
      subst es
      have hil : i < l0.length := by have := HM.out; omega
      have hj : (i < l0.length) = True := eq_true hil
      have hj2 : ((i : Int) < (l0.length : Int)) = True := eq_true (by omega)
      have hj0 : (0 ≤ (i : Int)) = True := eq_true (by omega)
      have wi : wrap64 ((i : Int) + 1) = ((i + 1 : Nat) : Int) := (IntWalk.wrap64_in _ ⟨by omega, by have := (HGC.out).2.1; omega⟩).trans (by omega)
      obtain ⟨ad, a3, ca3, eA, hcell0, hle3, hC3, hV3⟩ := V_rowN HG.out hil
      subst eA
      rw [List.drop_eq_getElem_cons hil, ddOut] at h
      obtain ⟨p, hp⟩ : ∃ p, l0[i] = p := ⟨_, rfl⟩
      rw [hp] at hcell0 h hle3 hC3 hV3
      have hcell := cell_kept hcell0 HD.out.bel
      replace h := Option.bind_eq_some_iff.1 h
      obtain ⟨b, h1, h⟩ := h
      have HH := Aside0.mk h1
      have HNX := Aside0.mk h
      have HC3 := Aside0.mk (Kd.C_below hC3 HD.out.bel)
      have HV3 := Aside0.mk (Kd.V_below hV3 HD.out.bel)
      have HL3 := Aside0.mk hle3
      have HLEN := Aside0.mk HD.out.len
      have HRD := Aside0.mk HD.out.reads
      have HRL := Aside0.mk (Kd.R_reads' HD.out.rs).2.1
      have hll : svs.length = s.length := HD.out.len
      have hd := HD.out
      rw [hll] at HRL hd ⊢
      have HD := Aside0.mk hd
      have HCELL0 := Aside0.mk hcell0
      have HV0 := Aside0.mk hV3
      clear h h1 hil hp hcell0 hC3 hV3 hle3 hd hll
      cases b with
      | true =>
        have h := HNX.out
        rw [if_pos rfl] at h
        have HNX2 := Aside0.mk h
        clear h HNX
        go_wp2_with (go_at_call 28; (refine (galoisref23_Has.calls k As cs s a3 ca3 p true _ (Kd.C_below HRD.out bel0) HRL.out (Kd.C_below HC3.out bel0) HL3.out HH.out).mono ?_); rintro e' w5 ⟨rfl, hd5⟩; have HD5 := Aside0.mk (HD.out.below (w' := w5) (by obtain ⟨q5, rfl⟩ := hd5.out; exact pw_below_drewN bel0 q5)); clear hd5)
        go_roundg m
        case measure => exact Nat.lt_succ_self _
        case rel => exact ⟨ρ, R, Z, svs, s, i + 1, _, _, _, rfl, rfl, rfl, (by first | (rw [wi]; done) | rfl), HD5, HV, HNX2, ⟨by have := HM.out; omega⟩⟩
      | false =>
        have h := HNX.out
        rw [if_neg (by decide)] at h
        replace h := Option.bind_eq_some_iff.1 h
        obtain ⟨l, h2, h⟩ := h
        replace h := Option.bind_eq_some_iff.1 h
        obtain ⟨s', h3, h⟩ := h
        have hsm : R.length < 1000 ∧ Z.length < 1000 := by
          by_cases e : R.length < 1000 ∧ Z.length < 1000
          · exact e
          · rw [if_neg e] at h; cases h
        rw [if_pos hsm] at h
        have HDB := Aside0.mk h2
        have HSN := Aside0.mk h3
        have HSM := Aside0.mk hsm
        have HNX2 := Aside0.mk h
        clear h HNX h2 h3 hsm
        go_wp2_with (first
          | (go_at_call 64; (refine (galoisref27_Double.calls k A1 c1 l1 A2 c2 l2 a3 ca3 p l _ (Kd.C_below H1.out (below_step HD5.out.bel bel0)) H1L.out (Kd.C_below H2.out (below_step HD5.out.bel bel0)) H2L.out (Kd.C_below HC5.out bel0) HL3.out HDB.out).mono ?_); rintro e' w6 ⟨v6, rfl, hs6, hb6⟩; obtain ⟨A6, c6, e6⟩ := Kd.R_slice (Kd.S_R hs6); subst e6; have HB6 := Aside0.mk (below_step (w := w5) bel0 hb6); have HS6 := Aside0.mk hs6; clear hs6 hb6)
          | (go_at_call 28; (refine (galoisref23_Has.calls k As cs s a3 ca3 p false _ (Kd.C_below HRD.out bel0) HRL.out (Kd.C_below HC3.out bel0) HL3.out HH.out).mono ?_); rintro e' w5 ⟨rfl, hd5⟩; have HB5 : Aside0 (Below wr.heap.size wr w5) := ⟨by obtain ⟨q5, rfl⟩ := hd5.out; exact pw_below_drewN bel0 q5⟩; have HD5 := Aside0.mk (HD.out.below HB5.out); have HC5 := Aside0.mk (Kd.C_below HC3.out HB5.out); have hcell5 := cell_kept hcell HB5.out; clear hd5))
        have HD6 := Aside0.mk (HD5.out.give HB6.out 2)
        have HL6 := Aside0.mk (Kd.S_V (base' := w.heap.size) (Kd.S_mono (ok' := fun b => newRole ρ w5.heap.size w6.heap.size 2 b = 2) (Kd.S_bound HS6.out) (fun b hb => newRole_new hb.2.1 hb.2.2.1)))
        have HV6 : Aside0 (∀ b, vr.ownBlock = some b → newRole ρ w5.heap.size w6.heap.size 2 b = 4) := ⟨fun b e => by rw [newRole_old (Kd.N_lt HD5.out.rr b e)]; exact HV.out b e⟩
        clear HS6 hj hj2 hj0 hcell hcell5
        go_loopg [10, 13] l.length (fun kq v10 v13 w' => ∃ (ρ2 : Nat → Nat) (svs2 : List Sv) (s2 : List (List Int)) (j : Nat) (vs2 : Value), vs2 = v10 ∧ v13 = .int .i64 (j : Int) ∧ Aside0 (DdAt w P0_ ρ2 w' vr vz vs2 R Z svs2 s2) ∧ Aside0 (∀ b, vr.ownBlock = some b → ρ2 b = 4) ∧ Aside0 (Kd.V (Kd.slice 3 (Kd.int .i64)) 43 w' w.heap.size (fun b => ρ2 b = 2) (.slice A6 l.length c6) l) ∧ Aside0 (seenIn k (l.drop j) s2 = some s') ∧ Aside0 (j + kq = l.length))
        case atStart => exact ⟨_, svs, s, 0, _, rfl, (by first | rfl | (simp; done)), HD6, HV6, HL6, HSN, ⟨by omega⟩⟩
        case round =>
          clear HD6 HV6 HL6 HSN HD5 HB6 HB5 HC5 HC3 HV3 HD HRD HRL HLEN HH
          obtain ⟨ρ2, svs2, s2, j, vs2, rfl, rfl, HD, HV, HL, HA, HJ⟩ := hrel
          have h := HA.out
          clear HA
          cases gk with
          | zero =>
            have hj : (j < l.length) = False := eq_false (by have := HJ.out; omega)
            have hj2 : ((j : Int) < (l.length : Int)) = False := eq_false (by have := HJ.out; omega)
            rw [List.drop_eq_nil_of_le (by have := HJ.out; omega)] at h
            obtain rfl := Option.some.inj h
            clear h
            have hcell := cell_kept HCELL0.out HD.out.bel
            have HPV := Aside0.mk (Kd.V_below HV0.out HD.out.bel)
            have hi1 : (i < l0.length) = True := eq_true (by have := HM.out; omega)
            have hi2 : ((i : Int) < (l0.length : Int)) = True := eq_true (by have := HM.out; omega)
            have hi3 : (0 ≤ (i : Int)) = True := eq_true (by omega)
            go_wp2_with (first
              | ((with_reducible refine gate_builtin (b := .append) (xs := #[.tmp 52, .tmp 55]) rfl ?_); at_builtin; refine Kd.R_append (Kd.int .i64) (w0 := w7) w.heap.size rfl (.tmp 52) (.tmp 55) 42 3 (.int .i64 0) 8 rfl Try.underlying42 int_infoC rfl (by decide) (by omega) vz Z (l.length : Int) [.int .i64 (l.length : Int)] (fun b => newRole ρ2 wr.heap.size w7.heap.size 4 b = 3 ∨ w7.heap.size ≤ b) (fun _ => False) rfl ?aX ?aP (fun _ hk => hk.elim) ?aF ?aO ?aB ?aS ?aL ?_; (case aX => rfl); (case aP => rfl); (case aF => exact fun _ h => .inr h); (case aO => exact Kd.R_mono HD7.out.rz (fun _ h => .inl h)); (case aB => exact ⟨rfl, rfl, rfl, Nat.le_refl _, fun _ _ => rfl⟩); (case aS => exact HD7.out.bel.size); (case aL => have := HSM.out; omega); intro v8 w8 ho hb hg hat; have HD8 := Aside0.mk (HD7.out.lens ho hg); have HV8 : Aside0 (∀ b, v7.ownBlock = some b → newRole (newRole ρ2 wr.heap.size w7.heap.size 4) w7.heap.size w8.heap.size 3 b = 4) := ⟨fun b e => by rw [newRole_old (Kd.N_lt HD7.out.rr b e)]; exact HV7.out b e⟩; clear ho hb hg hat)
              | ((with_reducible refine gate_builtin (b := .append) (xs := #[.tmp 45, .tmp 50]) rfl ?_); at_builtin; refine Kd.N_append (Kd.slice 3 (Kd.int .i64)) (w0 := wr) w.heap.size rfl (.tmp 45) (.tmp 50) 22 43 (.slice none 0 0) 24 rfl Try.underlying22 perm_info rfl (by decide) (by omega) vr R p [.slice a3 p.length ca3] (fun b => okN w P0_ ρ2 b ∨ wr.heap.size ≤ b) (fun b => P0_ b ∧ b < w.heap.size) rfl rfl ?aP ?aK ?aF ?aO ?aB ?aS ?aL ?_; (case aP => exact Kd.FK_slice_mk HL3.out (Kd.V_F HPV.out)); (case aK => exact fun b hb => ⟨.inl (.inr hb), fun e => by have h1 := HV.out b e.symm; have h2 := HD.out.old b hb.2; omega⟩); (case aF => exact fun _ h => .inr h); (case aO => exact Kd.N_mono HD.out.rr (fun _ h => .inl h)); (case aB => exact ⟨rfl, rfl, rfl, Nat.le_refl _, fun _ _ => rfl⟩); (case aS => exact HD.out.bel.size); (case aL => have := HSM.out; omega); intro v7 w7 ho hb hg hat; have HD7 := Aside0.mk (HD.out.firsts HV.out ho hg); have HV7 : Aside0 (∀ b, v7.ownBlock = some b → newRole ρ2 wr.heap.size w7.heap.size 4 b = 4) := ⟨fun b e => hat.elim (fun h1 => by rw [h1] at e; rw [newRole_old (Kd.N_lt HD.out.rr b e)]; exact HV.out b e) (fun h1 => by obtain ⟨b', h1, h2⟩ := h1; obtain rfl : b = b' := (Option.some.inj (e.symm.trans h1)); exact newRole_new h2 (Kd.N_lt ho b e))⟩; clear ho hb hg hat))
            go_roundg m
            case measure => exact Nat.lt_succ_self _
            case rel => exact ⟨_, R ++ [p], Z ++ [(l.length : Int)], svs2, s2, i + 1, _, _, _, rfl, rfl, rfl, (by first | (rw [wi]; done) | rfl), HD8, HV8, HNX2, ⟨by have := HM.out; omega⟩⟩
          | succ m2 =>
            obtain ⟨As2, cs2, es2⟩ := Kd.R_slice HD.out.rs
            subst es2
            have hll : svs2.length = s2.length := HD.out.len
            have hd := HD.out
            rw [hll] at hd ⊢
            have HD := Aside0.mk hd
            have hjl : j < l.length := by have := HJ.out; omega
            have hj : (j < l.length) = True := eq_true hjl
            have hj2 : ((j : Int) < (l.length : Int)) = True := eq_true (by omega)
            have hj0 : (0 ≤ (j : Int)) = True := eq_true (by omega)
            have wj : wrap64 ((j : Int) + 1) = ((j + 1 : Nat) : Int) := (IntWalk.wrap64_in _ ⟨by omega, by have := (Kd.V_reads' HL.out).2.2.2.1; omega⟩).trans (by omega)
            obtain ⟨ad8, a8, c8, eA8, hcell8, hle8, hC8, hV8⟩ := V_rowN HL.out hjl
            subst eA8
            rw [List.drop_eq_getElem_cons hjl, seenIn] at h
            obtain ⟨q, hq⟩ : ∃ q, l[j] = q := ⟨_, rfl⟩
            rw [hq] at hcell8 h hle8 hC8 hV8
            replace h := Option.bind_eq_some_iff.1 h
            obtain ⟨a, h3, h⟩ := h
            have hka : 0 ≤ a ∧ a ≤ (s2.length : Int) ∧ s2.length < 1000 := by
              by_cases e : 0 ≤ a ∧ a ≤ (s2.length : Int) ∧ s2.length < 1000
              · exact e
              · rw [if_neg e] at h; cases h
            rw [if_pos hka] at h
            obtain ⟨kk, rfl⟩ : ∃ kk : Nat, a = (kk : Int) := ⟨a.toNat, by omega⟩
            rw [Int.toNat_natCast] at h
            have HPL2 := Aside0.mk h3
            have HKK : Aside0 (kk ≤ s2.length) := ⟨by omega⟩
            have HSM2 : Aside0 (s2.length < 1000) := ⟨by omega⟩
            have HA2 := Aside0.mk h
            have HC8 := Aside0.mk hC8
            have HV8 := Aside0.mk hV8
            have HL8 := Aside0.mk hle8
            have HLEN2 := Aside0.mk hll
            have HRD2 := Aside0.mk HD.out.reads
            clear h h3 hka hjl hq hC8 hV8 hle8 hd hll
            go_wp2_with (go_at_call 65; (refine (put_ls k (sp := (a8, q.length, c8)) (ls := s2) (HD.out.below bel0).rs (HD.out.below bel0).bel.size (by have := HSM2.out; omega) (Kd.C_below HRD2.out bel0) ⟨a8, c8, rfl, HL8.out, Kd.C_below HC8.out bel0⟩ HPL2.out HKK.out).mono ?_); rintro e' w9 ⟨v9, rfl, hr9, hg9⟩; have hd9 := HD.out.put (s' := s2.take kk ++ q :: s2.drop kk) hr9 hg9 (by rw [List.length_append, List.length_append, List.length_cons, List.length_cons, List.length_take, List.length_take, List.length_drop, List.length_drop, HLEN2.out]) (fun i sv p h1 h2 => (ins_get HLEN2.out (by rw [HLEN2.out]; exact HKK.out) _ _ h1 h2).elim (fun e => by obtain ⟨rfl, rfl⟩ := e; exact HV8.out) (fun e => by obtain ⟨j, e1, e2⟩ := e; exact HD.out.inn j sv p e1 e2)); have HD9 := Aside0.mk hd9; have HL9 := Aside0.mk (Kd.V_mono (Kd.V_grown (Kd.V_bound HL.out) hg9 (fun b hb2 e => by have := HD.out.rs.1 b e.symm; have := hb2.1; omega)) (ok' := fun b => newRole ρ2 wr.heap.size w9.heap.size 1 b = 2) (fun b hb2 => (newRole_old hb2.2).trans hb2.1)); have HV9 : Aside0 (∀ b, vr.ownBlock = some b → newRole ρ2 wr.heap.size w9.heap.size 1 b = 4) := ⟨fun b e => by rw [newRole_old (Kd.N_lt HD.out.rr b e)]; exact HV.out b e⟩; clear hr9 hg9 hd9)
            go_roundg m2
            case measure => exact Nat.lt_succ_self _
            case rel => exact ⟨_, _, _, j + 1, _, rfl, (by first | (rw [wj]; done) | rfl), HD9, HV9, HL9, HA2, ⟨by have := HJ.out; omega⟩⟩
end Go.Proofs.Ytaaaljifclecnaa.Bs
end
section
/- A literal of three groups. -/
namespace Go.Proofs.Ytaaaljifclecnaa.Bs
open Go.RowKit Go.Proofs.YtaaaljifclecnaaW.PrintWords Go.Proofs.YtaaaljifclecnaaW.PrintLast Go.Proofs.YtaaaljifclecnaaW.PrintMore
theorem group_info : (Try.prog.info? 24).map (fun i => (i.zero, i.size)) = some (some (.agg #[.int .i64 0, .slice none 0 0]), 2) := by kernel_rfl
theorem lit3_run {o : Oper} {a : Act} {W : World} {x y z : Operand} {a0 a1 a2 : Int} {A0 A1 A2 : Option Addr} {n0 n1 n2 c0 c1 c2 : Nat} (ho : o.op = .buildSlice 57 3 #[(0, x), (1, y), (2, z)]) (hx : a.eval x = .agg #[.int .i64 a0, .slice A0 n0 c0]) (hy : a.eval y = .agg #[.int .i64 a1, .slice A1 n1 c1]) (hz : a.eval z = .agg #[.int .i64 a2, .slice A2 n2 c2]) :
    (execOp a.eval o).run Try.prog W = .ok (.value (.slice (some ⟨W.heap.size, 0, none⟩) 3 3)) (W.alloc (.cells #[.int .i64 a0, .slice A0 n0 c0, .int .i64 a1, .slice A1 n1 c1, .int .i64 a2, .slice A2 n2 c2] 24)) := by
  obtain ⟨ie, hie, hh⟩ := Option.map_eq_some_iff.1 group_info
  simp only [Prod.mk.injEq] at hh
  have hf : Instr.fill (fun i => some (i * ie.size, ie.size)) ((Array.range (3 * ie.size)).map ((Value.agg #[.int .i64 0, .slice none 0 0]).cells[· % (Value.agg #[.int .i64 0, .slice none 0 0]).cells.size]!)) [(0, .agg #[.int .i64 a0, .slice A0 n0 c0]), (1, .agg #[.int .i64 a1, .slice A1 n1 c1]), (2, .agg #[.int .i64 a2, .slice A2 n2 c2])] = some #[.int .i64 a0, .slice A0 n0 c0, .int .i64 a1, .slice A1 n1 c1, .int .i64 a2, .slice A2 n2 c2] := by
    rw [hh.2]
    first | kernel_rfl | (simp [Instr.fill, Value.cells, cellsList]; done) | go_simp
  have hr : (Instr.buildSlice 57 3 #[(0, .agg #[.int .i64 a0, .slice A0 n0 c0]), (1, .agg #[.int .i64 a1, .slice A1 n1 c1]), (2, .agg #[.int .i64 a2, .slice A2 n2 c2])]).run Try.prog W = .ok (.slice (some ⟨W.heap.size, 0, none⟩) 3 3) (W.alloc (.cells #[.int .i64 a0, .slice A0 n0 c0, .int .i64 a1, .slice A1 n1 c1, .int .i64 a2, .slice A2 n2 c2] 24)) := by
    have hs : ¬ 3 * ie.size > 2 ^ 24 := by rw [hh.2]; decide
    have hp : ¬ 3 * ie.size = 0 := by rw [hh.2]; decide
    simp only [Instr.buildSlice, run_underlying Try.underlying57, sizeOf, typeInfo, zeroValue, hie, hh.1, hs, hp, hf, newRow, Sem.run_bind, Result.andThen_ok, Sem.run_pure, if_false]
    simp [hf, hs, hp, hie, hh.1, newRow, sizeOf, typeInfo]
  simp only [execOp, ho, List.map_toArray, List.map_cons, List.map_nil, hx, hy, hz, Sem.run_bind, hr, Result.andThen_ok, Sem.run_pure]
end Go.Proofs.Ytaaaljifclecnaa.Bs
end
section
/- The walks of coset.Quotient. -/
namespace Go.Proofs.Ytaaaljifclecnaa.Bs
open Go.RowKit Go.Maps Go.Proofs.YtaaaljifclecnaaW.PrintWords Go.Proofs.YtaaaljifclecnaaW.PrintLast Go.Proofs.YtaaaljifclecnaaW.PrintMore Go.Proofs.Ytaaaljifclecnaa.Plain Go.Proofs.Ytaaaljifclecnaa.PBs
open Go.Proofs.Ytaaaljifclecnaa.PCo (coset_mul.f coset_mul.mono coset_mul.calls coset_key.f coset_key.mono coset_key.calls coset_inverse.f coset_inverse.mono coset_inverse.calls permgroup_Elements.f permgroup_Elements.mono permgroup_Elements.calls)
def normRow (k : Nat) (C : CosV) (q : List Int) : List (List Int) → Option Bool
  | [] => some true
  | x :: r => (coset_inverse.f k q).bind fun qi => (coset_mul.f k qi x).bind fun y => (coset_mul.f k y q).bind fun z => (coset_key.f k z).bind fun s => if s.size ≤ 1000 then (if (C.num s).getD 0 = 0 then normRow k C q r else some false) else none
def normRows (k : Nat) (C : CosV) (l1 : List (List Int)) : List (List Int) → Option Bool
  | [] => some true
  | q :: r => (normRow k C q l1).bind fun b => if b = true then normRows k C l1 r else some false
def quotV (k : Nat) (a0 : Int) (l0 : List (List Int)) (a1 : Int) (l1 : List (List Int)) : Option (List (List Int) × Int) := (checkM k (a0, l0) [(a1, l1)] []).bind fun e => if e = 0 then (cosM k a0 l0 a1 l1).bind fun C => if l0.length < 1000000 ∧ l1.length < 1000000 then (normRows k C l1 l0).bind fun b => if b = true then (if C.least.length ≤ 120 then (if fitL C.least = true then (prodM k C).bind fun t => some (t, 0) else none) else some ([], 4)) else some ([], 29) else none else some ([], e)
set_option maxHeartbeats 16000000 in
set_option maxRecDepth 100000 in
theorem quot_any (k : Nat) (a0 : Int) (A0 : Option Addr) (c0 : Nat) (l0 : List (List Int)) (a1 : Int) (A1 : Option Addr) (c1 : Nat) (l1 : List (List Int)) (r1 : List (List Int)) (r2 : Int) (w : World) (hr0 : Kd.C (Kd.slice 3 (Kd.int .i64)) w A0 l0.length l0) (hc0 : l0.length ≤ c0) (hr1 : Kd.C (Kd.slice 3 (Kd.int .i64)) w A1 l1.length l1) (hc1 : l1.length ≤ c1) (h : quotV k a0 l0 a1 l1 = some (r1, r2)) :
    Calls Try.prog 13 #[.agg #[.int .i64 a0, .slice A0 l0.length c0], .agg #[.int .i64 a1, .slice A1 l1.length c1]] w fun e w' => ∃ v0_ : Value, e = .returned (.tuple #[v0_, .int .i64 r2]) ∧ Kd.S (Kd.slice 3 (Kd.int .i64)) 42 w' w.heap.size (fun _ => True) v0_ r1 ∧ Below w.heap.size w w' := by
  have hu := Try.underlying24
  have hu2 := Try.underlying81
  have hf2 := run_least
  have HG0 := Aside0.mk hr0
  have HC0 := Aside0.mk hc0
  have HG1 := Aside0.mk hr1
  have HC1 := Aside0.mk hc1
  unfold quotV at h
  replace h := Option.bind_eq_some_iff.1 h
  obtain ⟨e1, hk, h⟩ := h
  have HK := Aside0.mk hk
  clear hr0 hc0 hr1 hc1 hk
  have HST := Aside0.mk (start3 w (.cells #[.int .i64 a0, .slice A0 l0.length c0] 24) (.cells #[.int .i64 a1, .slice A1 l1.length c1] 24) (.cells #[.int .i64 a1, .slice A1 l1.length c1] 24))
  go_enter Try.func13, Try.ntmps13
  by_cases e0 : e1 = 0
  · subst e0
    rw [if_pos rfl] at h
    replace h := Option.bind_eq_some_iff.1 h
    obtain ⟨C, hC, h⟩ := h
    have HM := Aside0.mk hC
    have H := Aside0.mk h
    clear h hC
    go_wp2_with (first | (go_at_call 49; (refine (check_any k (a0, l0) [(a1, l1)] [] 0 (rows := [(a1, (A1, l1.length, c1))]) ⟨rfl, HC0.out, Kd.C_below HG0.out bel0⟩ (one_grp HST.out.2.2 HC1.out (Kd.C_below HG1.out bel0)) (Or.inr ⟨_, rfl⟩) (Nat.le_refl _) (by simp) (by simp) ⟨rfl, by simp, fun h => absurd h (by simp)⟩ (Nat.zero_le _) HK.out).mono ?_); rintro e w5 ⟨rfl, hb5⟩; have hx0 : w5.cell? ⟨w.heap.size, 0, none⟩ = some (.int .i64 a0) := blk_cell ((hb5.block _ (blk_lt HST.out.1)).trans HST.out.1) 0; have hx1 : w5.cell? ⟨w.heap.size, 1, none⟩ = some (.slice A0 l0.length c0) := blk_cell ((hb5.block _ (blk_lt HST.out.1)).trans HST.out.1) 1; have hy0 : w5.cell? ⟨w.heap.size + 1, 0, none⟩ = some (.int .i64 a1) := blk_cell ((hb5.block _ (blk_lt HST.out.2.1)).trans HST.out.2.1) 0; have hy1 : w5.cell? ⟨w.heap.size + 1, 1, none⟩ = some (.slice A1 l1.length c1) := blk_cell ((hb5.block _ (blk_lt HST.out.2.1)).trans HST.out.2.1) 1; have hlt := Nat.lt_of_lt_of_le (blk_lt HST.out.2.1) hb5.size; have hl0 : w.heap.size < w5.heap.size := (by omega); have HB5 : Aside0 (Below w.heap.size w w5) := ⟨below_step (below_alloc (below_alloc (below_alloc (Below.refl _ _) _) _) _) hb5⟩; clear hb5) | (go_at_call 51; (refine (cosetsOf_any k a0 A0 c0 l0 a1 A1 c1 l1 C _ (Kd.C_below HG0.out HB5.out) HC0.out (Kd.C_below HG1.out HB5.out) HC1.out HM.out).mono ?_); rintro e w6 ⟨v, rfl, hC6, hb6⟩; obtain ⟨Ae, ce, Ao, co, Al, cl, b, n, rfl, h1, h2, h3, h4⟩ := hC6; have HCV := Aside0.mk (show Cos w6 _ C from ⟨Ae, ce, Ao, co, Al, cl, b, n, rfl, h1, h2, h3, h4⟩); have HL6 := Aside0.mk h3; have HS6 := Aside0.mk hb6.size; have gx0 := cell_keep hx0 hb6; have gx1 := cell_keep hx1 hb6; have gy0 := cell_keep hy0 hb6; have gy1 := cell_keep hy1 hb6; have gl1 := Nat.lt_of_lt_of_le hlt hb6.size; have gl0 := Nat.lt_of_lt_of_le hl0 hb6.size; clear hx0 hx1 hy0 hy1 hlt hl0; have HB6 := Aside0.mk (below_step HB5.out hb6); clear hb6 h1 h2 h3 h4))
    obtain ⟨w9, hw9⟩ : ∃ w9 : World, w9 = w6.alloc (.cells #[.slice Ae C.els.length ce, .slice Ao C.own.length co, .slice Al C.least.length cl, .map (some b)] 81) := ⟨_, rfl⟩
    have hb9 : Below w6.heap.size w6 w9 := by rw [hw9]; exact below_alloc (Below.refl _ _) _
    have hx9 : w9.heap[w6.heap.size]? = some (.cells #[.slice Ae C.els.length ce, .slice Ao C.own.length co, .slice Al C.least.length cl, .map (some b)] 81 (0, 0)) := by rw [hw9]; exact blk_new _ _
    have HX9 := Aside0.mk hx9
    have HB9 := Aside0.mk (below_step HB6.out hb9)
    have HCV9 := Aside0.mk (HCV.out.below hb9)
    have HGY1 := Aside0.mk (cell_keep gy1 hb9)
    have HGX1 := Aside0.mk (cell_keep gx1 hb9)
    have HL9 := Aside0.mk (Kd.C_below HL6.out.2 hb9)
    have HLC := Aside0.mk HL6.out.1
    rw [← hw9]
    clear hw9 hb9 hx9 gx0 gx1 gy0 gy1 gl0 gl1 HST
    have hlen : l0.length < 1000000 ∧ l1.length < 1000000 := by
      by_cases e : l0.length < 1000000 ∧ l1.length < 1000000
      · exact e
      · have h := H.out; rw [if_neg e] at h; cases h
    have h := H.out
    rw [if_pos hlen] at h
    replace h := Option.bind_eq_some_iff.1 h
    obtain ⟨bb, hbb, h⟩ := h
    have HN := Aside0.mk hbb
    have HLEN := Aside0.mk hlen
    clear H hbb hlen
    have H := Aside0.mk h
    clear h
    go_loopg [25] l0.length (fun kq v25 w' => ∃ (i : Nat), v25 = .int .i64 (i : Int) ∧ Aside0 (Below w9.heap.size w9 w') ∧ Aside0 (normRows k C l1 (l0.drop i) = some bb) ∧ Aside0 (i + kq = l0.length))
    case atStart => exact ⟨0, (by first | rfl | (simp; done)), ⟨Below.refl _ _⟩, HN, ⟨by omega⟩⟩
    case round =>
      clear HN
      obtain ⟨i, rfl, HB, HA, HI⟩ := hrel
      have ha := HA.out
      clear HA
      have HX := Aside0.mk ((HB.out.block _ (blk_lt HX9.out)).trans HX9.out)
      have hgy1 := cell_keep HGY1.out HB.out
      have hc2 : wr.cell? ⟨w6.heap.size, 2, none⟩ = some (.slice Al C.least.length cl) := blk_cell HX.out 2
      cases gk with
      | zero =>
        have hj : (i < l0.length) = False := eq_false (by have := HI.out; omega)
        have hj2 : ((i : Int) < (l0.length : Int)) = False := eq_false (by have := HI.out; omega)
        rw [List.drop_eq_nil_of_le (by have := HI.out; omega)] at ha
        obtain rfl : true = bb := Option.some.inj ha
        have h := H.out
        rw [if_pos rfl] at h
        clear ha H
        by_cases e1 : C.least.length ≤ 120
        · rw [if_pos e1] at h
          have e2 : (120 < C.least.length) = False := eq_false (by omega)
          have e3 : ((120 : Int) < (C.least.length : Int)) = False := eq_false (by omega)
          have hfit : fitL C.least = true := by
            by_cases e : fitL C.least = true
            · exact e
            · rw [if_neg e] at h; cases h
          rw [if_pos hfit] at h
          replace h := Option.bind_eq_some_iff.1 h
          obtain ⟨t, ht, h⟩ := h
          obtain ⟨rfl, rfl⟩ : t = r1 ∧ 0 = r2 := ⟨congrArg Prod.fst (Option.some.inj h), congrArg Prod.snd (Option.some.inj h)⟩
          have HF := Aside0.mk hfit
          have HT := Aside0.mk ht
          obtain ⟨f0, f1, f2, f3⟩ := cos_cells HX.out
          clear h ht hfit e1
          go_wp2_with (go_at_call 52; (refine (products_any k C t (HCV9.out.below HB.out) HF.out HT.out).mono ?_); rintro e w7 ⟨v7, rfl, hs7, hb7⟩; obtain ⟨A7, c7, e7⟩ := Kd.R_slice (Kd.S_R hs7); subst e7; have HS7 := Aside0.mk hs7; have HB7 := Aside0.mk hb7; clear hs7 hb7)
          go_ret2
          exact ⟨_, rfl, Kd.S_lower HS7.out (below_step HB9.out HB.out).size, below_step HB9.out (below_step HB.out HB7.out)⟩
        · rw [if_neg e1] at h
          obtain ⟨rfl, rfl⟩ : [] = r1 ∧ 4 = r2 := ⟨congrArg Prod.fst (Option.some.inj h), congrArg Prod.snd (Option.some.inj h)⟩
          have e2 : (120 < C.least.length) = True := eq_true (by omega)
          have e3 : ((120 : Int) < (C.least.length : Int)) = True := eq_true (by omega)
          clear h e1
          go_wp2
          go_ret2
          exact ⟨_, rfl, Kd.S_nil _ _ _ _ _, below_step HB9.out HB.out⟩
      | succ m =>
        have hil : i < l0.length := by have := HI.out; omega
        have hj : (i < l0.length) = True := eq_true hil
        have hj2 : ((i : Int) < (l0.length : Int)) = True := eq_true (by omega)
        have hj0 : (0 ≤ (i : Int)) = True := eq_true (by omega)
        have wi : wrap64 ((i : Int) + 1) = ((i + 1 : Nat) : Int) := (IntWalk.wrap64_in _ ⟨by omega, by have := HLEN.out; omega⟩).trans (by omega)
        obtain ⟨ad, gv, eA, hcell0, hga⟩ := row_at HG0.out (List.getElem?_eq_getElem hil)
        subst eA
        obtain ⟨a2, ca2, e2, hle2, hC2⟩ := hga
        rw [e2] at hcell0
        rw [List.drop_eq_getElem_cons hil, normRows] at ha
        obtain ⟨q, hq⟩ : ∃ q, l0[i] = q := ⟨_, rfl⟩
        rw [hq] at hcell0 hle2 hC2 ha
        replace ha := Option.bind_eq_some_iff.1 ha
        obtain ⟨b1, hrow, ha⟩ := ha
        have HROW := Aside0.mk hrow
        have HA := Aside0.mk ha
        have hcell1 := cell_keep hcell0 (below_step HB9.out HB.out)
        have HLQ := Aside0.mk hle2
        have HCQ := Aside0.mk (Kd.C_below hC2 (below_step HB9.out HB.out))
        clear hq hcell0 hle2 hC2 e2 hrow ha
        go_wp2
        clear hgy1 hc2 hj hj2 hj0 hcell1
        obtain ⟨w1, hw1⟩ : ∃ x, x = wr := ⟨_, rfl⟩
        subst hw1
        have HBo := HB
        go_loopg [32] l1.length (fun kq v32 w' => ∃ (j : Nat), v32 = .int .i64 (j : Int) ∧ Aside0 (Below w9.heap.size w9 w') ∧ Aside0 (Below w1.heap.size w1 w') ∧ Aside0 (normRow k C q (l1.drop j) = some b1) ∧ Aside0 (j + kq = l1.length))
        case atStart => exact ⟨0, (by first | rfl | (simp; done)), HB, ⟨Below.refl _ _⟩, HROW, ⟨by omega⟩⟩
        case round =>
          clear HROW HB HX
          obtain ⟨j, rfl, HB, HB1, HAR, HJ⟩ := hrel
          have hb := HAR.out
          clear HAR
          have HX := Aside0.mk ((HB.out.block _ (blk_lt HX9.out)).trans HX9.out)
          have HXLT := Aside0.mk (blk_lt HX.out)
          have HCQ := Aside0.mk (Kd.C_below HCQ.out HB1.out)
          cases gk with
          | zero =>
            have hj : (j < l1.length) = False := eq_false (by have := HJ.out; omega)
            have hj2 : ((j : Int) < (l1.length : Int)) = False := eq_false (by have := HJ.out; omega)
            rw [List.drop_eq_nil_of_le (by have := HJ.out; omega)] at hb
            obtain rfl : true = b1 := Option.some.inj hb
            have ha := HA.out
            rw [if_pos rfl] at ha
            have HA2 := Aside0.mk ha
            clear ha hb HA
            go_wp2
            go_roundg m
            case measure => exact Nat.lt_succ_self _
            case rel => exact ⟨i + 1, (by first | (rw [wi]; done) | rfl), HB, HA2, ⟨by have := HI.out; omega⟩⟩
          | succ m2 =>
            have hjl : j < l1.length := by have := HJ.out; omega
            have hj : (j < l1.length) = True := eq_true hjl
            have hj2 : ((j : Int) < (l1.length : Int)) = True := eq_true (by omega)
            have hj0 : (0 ≤ (j : Int)) = True := eq_true (by omega)
            have wj : wrap64 ((j : Int) + 1) = ((j + 1 : Nat) : Int) := (IntWalk.wrap64_in _ ⟨by omega, by have := HLEN.out; omega⟩).trans (by omega)
            obtain ⟨ad', gv, eA, hcell0, hga⟩ := row_at HG1.out (List.getElem?_eq_getElem hjl)
            subst eA
            obtain ⟨a3, ca3, e2, hle3, hC3⟩ := hga
            rw [e2] at hcell0
            rw [List.drop_eq_getElem_cons hjl, normRow] at hb
            obtain ⟨x, hx⟩ : ∃ x, l1[j] = x := ⟨_, rfl⟩
            rw [hx] at hcell0 hle3 hC3 hb
            replace hb := Option.bind_eq_some_iff.1 hb
            obtain ⟨qi, hy1, hb⟩ := hb
            replace hb := Option.bind_eq_some_iff.1 hb
            obtain ⟨y, hy2, hb⟩ := hb
            replace hb := Option.bind_eq_some_iff.1 hb
            obtain ⟨z, hy3, hb⟩ := hb
            replace hb := Option.bind_eq_some_iff.1 hb
            obtain ⟨s, hks, hb⟩ := hb
            have hss : s.size ≤ 1000 := by
              by_cases e : s.size ≤ 1000
              · exact e
              · rw [if_neg e] at hb; cases hb
            rw [if_pos hss] at hb
            obtain ⟨nn, hnn⟩ : ∃ nn, (C.num s).getD 0 = nn := ⟨_, rfl⟩
            rw [hnn] at hb
            have HNN := Aside0.mk hnn
            have HY1 := Aside0.mk hy1
            have HY2 := Aside0.mk hy2
            have HY3 := Aside0.mk hy3
            have HKS := Aside0.mk hks
            have HSS := Aside0.mk hss
            have HLX := Aside0.mk hle3
            have HCX := Aside0.mk (Kd.C_below hC3 (below_step HB9.out HB.out))
            have hcell3 := cell_keep hcell0 (below_step HB9.out HB.out)
            obtain ⟨f0, f1, f2, f3⟩ := cos_cells HX.out
            clear hx hcell0 hle3 hC3 e2 hy1 hy2 hy3 hks hss hnn
            by_cases e0 : nn = 0
            · subst e0
              rw [if_pos rfl] at hb
              have HAR := Aside0.mk hb
              clear hb
              go_wp2
              go_region_law (first
                | (go_simp; go_at_call 55; (refine (coset_inverse.calls k a2 ca2 q qi _ (Kd.C_below HCQ.out bel0) HLQ.out HY1.out).mono ?_); rintro e wa ⟨va, rfl, hra, hba⟩; have HBa := Aside0.mk (below_step (w := wr) bel0 hba); obtain ⟨Aa, caa, ea⟩ := Kd.R_slice hra; subst ea; have HRa := Aside0.mk hra; obtain ⟨fa0, fa1, fa2, fa3⟩ := cos_cells ((HBa.out.block _ HXLT.out).trans HX.out); have fal := Nat.lt_of_lt_of_le HXLT.out HBa.out.size; clear hra hba)
                | (go_simp; go_at_call 54; (refine (coset_mul.calls k Ab cab y a2 ca2 q z _ (Kd.C_below (Kd.R_reads' HRb.out).2.2 bel0) (Kd.R_reads' HRb.out).2.1 (Kd.C_below HCQ.out (below_step HBb.out bel0)) HLQ.out HY3.out).mono ?_); rintro e wc ⟨vc, rfl, hrc, hbc⟩; have HBc := Aside0.mk (below_step HBb.out (below_step (w := wb) bel0 hbc)); obtain ⟨Ac, cac, ec⟩ := Kd.R_slice hrc; subst ec; have HRc := Aside0.mk hrc; obtain ⟨fc0, fc1, fc2, fc3⟩ := cos_cells ((HBc.out.block _ HXLT.out).trans HX.out); have fcl := Nat.lt_of_lt_of_le HXLT.out HBc.out.size; clear hrc hbc)
                | (go_simp; go_at_call 54; (refine (coset_mul.calls k Aa caa qi a3 ca3 x y _ (Kd.C_below (Kd.R_reads' HRa.out).2.2 bel0) (Kd.R_reads' HRa.out).2.1 (Kd.C_below HCX.out (below_step HBa.out bel0)) HLX.out HY2.out).mono ?_); rintro e wb ⟨vb, rfl, hrb, hbb⟩; have HBb := Aside0.mk (below_step HBa.out (below_step (w := wa) bel0 hbb)); obtain ⟨Ab, cab, eb⟩ := Kd.R_slice hrb; subst eb; have HRb := Aside0.mk hrb; obtain ⟨fb0, fb1, fb2, fb3⟩ := cos_cells ((HBb.out.block _ HXLT.out).trans HX.out); have fbl := Nat.lt_of_lt_of_le HXLT.out HBb.out.size; clear hrb hbb)
                | (go_simp; go_at_call 53; (refine (of_any k C z s (HCV9.out.below (below_step HB.out (below_step HBc.out bel0))) (Kd.C_below (Kd.R_reads' HRc.out).2.2 bel0) (Kd.R_reads' HRc.out).2.1 HKS.out HSS.out).mono ?_); rintro e wd ⟨rfl, hbd⟩; have HBd := Aside0.mk (below_step HBc.out (below_step (w := wc) bel0 hbd)); rw [HNN.out]; clear hbd))
              all_goals
                go_wp2
                go_roundg m2
                case measure => exact Nat.lt_succ_self _
                case rel => exact ⟨j + 1, (by first | (rw [wj]; done) | rfl), ⟨below_step HB.out HBd.out⟩, ⟨below_step HB1.out HBd.out⟩, HAR, ⟨by have := HJ.out; omega⟩⟩
            · rw [if_neg e0] at hb
              obtain rfl : false = b1 := Option.some.inj hb
              have ha := HA.out
              rw [if_neg (by decide)] at ha
              obtain rfl : false = bb := Option.some.inj ha
              have h := H.out
              rw [if_neg (by decide)] at h
              obtain ⟨rfl, rfl⟩ : [] = r1 ∧ 29 = r2 := ⟨congrArg Prod.fst (Option.some.inj h), congrArg Prod.snd (Option.some.inj h)⟩
              have q1 : (nn == 0) = false := beq_eq_false_iff_ne.mpr e0
              have q2 : (nn != 0) = true := bne_iff_ne.mpr e0
              clear h ha hb HA H e0
              go_wp2
              go_region_law (first
                | (go_simp; go_at_call 55; (refine (coset_inverse.calls k a2 ca2 q qi _ (Kd.C_below HCQ.out bel0) HLQ.out HY1.out).mono ?_); rintro e wa ⟨va, rfl, hra, hba⟩; have HBa := Aside0.mk (below_step (w := wr) bel0 hba); obtain ⟨Aa, caa, ea⟩ := Kd.R_slice hra; subst ea; have HRa := Aside0.mk hra; obtain ⟨fa0, fa1, fa2, fa3⟩ := cos_cells ((HBa.out.block _ HXLT.out).trans HX.out); have fal := Nat.lt_of_lt_of_le HXLT.out HBa.out.size; clear hra hba)
                | (go_simp; go_at_call 54; (refine (coset_mul.calls k Ab cab y a2 ca2 q z _ (Kd.C_below (Kd.R_reads' HRb.out).2.2 bel0) (Kd.R_reads' HRb.out).2.1 (Kd.C_below HCQ.out (below_step HBb.out bel0)) HLQ.out HY3.out).mono ?_); rintro e wc ⟨vc, rfl, hrc, hbc⟩; have HBc := Aside0.mk (below_step HBb.out (below_step (w := wb) bel0 hbc)); obtain ⟨Ac, cac, ec⟩ := Kd.R_slice hrc; subst ec; have HRc := Aside0.mk hrc; obtain ⟨fc0, fc1, fc2, fc3⟩ := cos_cells ((HBc.out.block _ HXLT.out).trans HX.out); have fcl := Nat.lt_of_lt_of_le HXLT.out HBc.out.size; clear hrc hbc)
                | (go_simp; go_at_call 54; (refine (coset_mul.calls k Aa caa qi a3 ca3 x y _ (Kd.C_below (Kd.R_reads' HRa.out).2.2 bel0) (Kd.R_reads' HRa.out).2.1 (Kd.C_below HCX.out (below_step HBa.out bel0)) HLX.out HY2.out).mono ?_); rintro e wb ⟨vb, rfl, hrb, hbb⟩; have HBb := Aside0.mk (below_step HBa.out (below_step (w := wa) bel0 hbb)); obtain ⟨Ab, cab, eb⟩ := Kd.R_slice hrb; subst eb; have HRb := Aside0.mk hrb; obtain ⟨fb0, fb1, fb2, fb3⟩ := cos_cells ((HBb.out.block _ HXLT.out).trans HX.out); have fbl := Nat.lt_of_lt_of_le HXLT.out HBb.out.size; clear hrb hbb)
                | (go_simp; go_at_call 53; (refine (of_any k C z s (HCV9.out.below (below_step HB.out (below_step HBc.out bel0))) (Kd.C_below (Kd.R_reads' HRc.out).2.2 bel0) (Kd.R_reads' HRc.out).2.1 HKS.out HSS.out).mono ?_); rintro e wd ⟨rfl, hbd⟩; have HBd := Aside0.mk (below_step HBc.out (below_step (w := wc) bel0 hbd)); rw [HNN.out]; clear hbd))
              all_goals
                go_wp2
                go_ret2
                exact ⟨_, rfl, Kd.S_nil _ _ _ _ _, below_step HB9.out (below_step HB.out HBd.out)⟩
  · rw [if_neg e0] at h
    obtain ⟨rfl, rfl⟩ : [] = r1 ∧ e1 = r2 := ⟨congrArg Prod.fst (Option.some.inj h), congrArg Prod.snd (Option.some.inj h)⟩
    have q1 : (e1 == 0) = false := beq_eq_false_iff_ne.mpr e0
    have q2 : (e1 != 0) = true := bne_iff_ne.mpr e0
    clear h e0
    go_wp2_with (go_at_call 49; (refine (check_any k (a0, l0) [(a1, l1)] [] e1 (rows := [(a1, (A1, l1.length, c1))]) ⟨rfl, HC0.out, Kd.C_below HG0.out bel0⟩ (one_grp HST.out.2.2 HC1.out (Kd.C_below HG1.out bel0)) (Or.inr ⟨_, rfl⟩) (Nat.le_refl _) (by simp) (by simp) ⟨rfl, by simp, fun h => absurd h (by simp)⟩ (Nat.zero_le _) HK.out).mono ?_); rintro e w5 ⟨rfl, hb5⟩; have hx0 : w5.cell? ⟨w.heap.size, 0, none⟩ = some (.int .i64 a0) := blk_cell ((hb5.block _ (blk_lt HST.out.1)).trans HST.out.1) 0; have hx1 : w5.cell? ⟨w.heap.size, 1, none⟩ = some (.slice A0 l0.length c0) := blk_cell ((hb5.block _ (blk_lt HST.out.1)).trans HST.out.1) 1; have hy0 : w5.cell? ⟨w.heap.size + 1, 0, none⟩ = some (.int .i64 a1) := blk_cell ((hb5.block _ (blk_lt HST.out.2.1)).trans HST.out.2.1) 0; have hy1 : w5.cell? ⟨w.heap.size + 1, 1, none⟩ = some (.slice A1 l1.length c1) := blk_cell ((hb5.block _ (blk_lt HST.out.2.1)).trans HST.out.2.1) 1; have hlt := Nat.lt_of_lt_of_le (blk_lt HST.out.2.1) hb5.size; have hl0 : w.heap.size < w5.heap.size := (by omega); have HB5 : Aside0 (Below w.heap.size w w5) := ⟨below_step (below_alloc (below_alloc (below_alloc (Below.refl _ _) _) _) _) hb5⟩; clear hb5)
    go_ret2
    exact ⟨_, rfl, Kd.S_nil _ _ _ _ _, HB5.out⟩
end Go.Proofs.Ytaaaljifclecnaa.Bs
end
section
/- The walks of coset.Action. -/
namespace Go.Proofs.Ytaaaljifclecnaa.Bs
open Go.RowKit Go.Maps Go.Proofs.YtaaaljifclecnaaW.PrintWords Go.Proofs.YtaaaljifclecnaaW.PrintLast Go.Proofs.YtaaaljifclecnaaW.PrintMore Go.Proofs.Ytaaaljifclecnaa.Plain Go.Proofs.Ytaaaljifclecnaa.PBs
open Go.Proofs.Ytaaaljifclecnaa.PCo (coset_mul.f coset_mul.mono coset_mul.calls coset_key.f coset_key.mono coset_key.calls coset_inverse.f coset_inverse.mono coset_inverse.calls permgroup_Elements.f permgroup_Elements.mono permgroup_Elements.calls)
def actV (k : Nat) (a0 : Int) (l0 : List (List Int)) (a1 : Int) (l1 : List (List Int)) : Option (List (List Int) × Int) := (checkM k (a0, l0) [(a1, l1)] []).bind fun e => if e = 0 then (cosM k a0 l0 a1 l1).bind fun C => if C.least.length ≤ 20 then (if l0.length < 1000000 then (numRows k C (fun q p => coset_mul.f k p q) l0 []).bind fun t => some (t, 0) else none) else some ([], 4) else some ([], e)
set_option maxHeartbeats 16000000 in
set_option maxRecDepth 100000 in
theorem act_any (k : Nat) (a0 : Int) (A0 : Option Addr) (c0 : Nat) (l0 : List (List Int)) (a1 : Int) (A1 : Option Addr) (c1 : Nat) (l1 : List (List Int)) (r1 : List (List Int)) (r2 : Int) (w : World) (hr0 : Kd.C (Kd.slice 3 (Kd.int .i64)) w A0 l0.length l0) (hc0 : l0.length ≤ c0) (hr1 : Kd.C (Kd.slice 3 (Kd.int .i64)) w A1 l1.length l1) (hc1 : l1.length ≤ c1) (h : actV k a0 l0 a1 l1 = some (r1, r2)) :
    Calls Try.prog 46 #[.agg #[.int .i64 a0, .slice A0 l0.length c0], .agg #[.int .i64 a1, .slice A1 l1.length c1]] w fun e w' => ∃ v0_ : Value, e = .returned (.tuple #[v0_, .int .i64 r2]) ∧ Kd.S (Kd.slice 3 (Kd.int .i64)) 43 w' w.heap.size (fun _ => True) v0_ r1 ∧ Below w.heap.size w w' := by
  have hu := Try.underlying24
  have hu2 := Try.underlying81
  have hf2 := run_least
  have HG0 := Aside0.mk hr0
  have HC0 := Aside0.mk hc0
  have HG1 := Aside0.mk hr1
  have HC1 := Aside0.mk hc1
  unfold actV at h
  replace h := Option.bind_eq_some_iff.1 h
  obtain ⟨e1, hk, h⟩ := h
  have HK := Aside0.mk hk
  clear hr0 hc0 hr1 hc1 hk
  have HST := Aside0.mk (start3 w (.cells #[.int .i64 a0, .slice A0 l0.length c0] 24) (.cells #[.int .i64 a1, .slice A1 l1.length c1] 24) (.cells #[.int .i64 a1, .slice A1 l1.length c1] 24))
  go_enter Try.func46, Try.ntmps46
  by_cases e0 : e1 = 0
  · subst e0
    rw [if_pos rfl] at h
    replace h := Option.bind_eq_some_iff.1 h
    obtain ⟨C, hC, h⟩ := h
    have HM := Aside0.mk hC
    by_cases e1 : C.least.length ≤ 20
    · rw [if_pos e1] at h
      have hln : l0.length < 1000000 := by
        by_cases e : l0.length < 1000000
        · exact e
        · rw [if_neg e] at h; cases h
      rw [if_pos hln] at h
      replace h := Option.bind_eq_some_iff.1 h
      obtain ⟨t, ht, h⟩ := h
      obtain ⟨rfl, rfl⟩ : t = r1 ∧ 0 = r2 := ⟨congrArg Prod.fst (Option.some.inj h), congrArg Prod.snd (Option.some.inj h)⟩
      have HE1 := Aside0.mk e1
      have HLN := Aside0.mk hln
      have H := Aside0.mk ht
      have e2 : (20 < C.least.length) = False := eq_false (by omega)
      have e3 : ((20 : Int) < (C.least.length : Int)) = False := eq_false (by omega)
      clear h hC ht hln e1
      go_wp2_with (first | (go_at_call 49; (refine (check_any k (a0, l0) [(a1, l1)] [] 0 (rows := [(a1, (A1, l1.length, c1))]) ⟨rfl, HC0.out, Kd.C_below HG0.out bel0⟩ (one_grp HST.out.2.2 HC1.out (Kd.C_below HG1.out bel0)) (Or.inr ⟨_, rfl⟩) (Nat.le_refl _) (by simp) (by simp) ⟨rfl, by simp, fun h => absurd h (by simp)⟩ (Nat.zero_le _) HK.out).mono ?_); rintro e w5 ⟨rfl, hb5⟩; have hx0 : w5.cell? ⟨w.heap.size, 0, none⟩ = some (.int .i64 a0) := blk_cell ((hb5.block _ (blk_lt HST.out.1)).trans HST.out.1) 0; have hx1 : w5.cell? ⟨w.heap.size, 1, none⟩ = some (.slice A0 l0.length c0) := blk_cell ((hb5.block _ (blk_lt HST.out.1)).trans HST.out.1) 1; have hy0 : w5.cell? ⟨w.heap.size + 1, 0, none⟩ = some (.int .i64 a1) := blk_cell ((hb5.block _ (blk_lt HST.out.2.1)).trans HST.out.2.1) 0; have hy1 : w5.cell? ⟨w.heap.size + 1, 1, none⟩ = some (.slice A1 l1.length c1) := blk_cell ((hb5.block _ (blk_lt HST.out.2.1)).trans HST.out.2.1) 1; have hlt := Nat.lt_of_lt_of_le (blk_lt HST.out.2.1) hb5.size; have hl0 : w.heap.size < w5.heap.size := (by omega); have HB5 : Aside0 (Below w.heap.size w w5) := ⟨below_step (below_alloc (below_alloc (below_alloc (Below.refl _ _) _) _) _) hb5⟩; clear hb5) | (go_at_call 51; (refine (cosetsOf_any k a0 A0 c0 l0 a1 A1 c1 l1 C _ (Kd.C_below HG0.out HB5.out) HC0.out (Kd.C_below HG1.out HB5.out) HC1.out HM.out).mono ?_); rintro e w6 ⟨v, rfl, hC6, hb6⟩; obtain ⟨Ae, ce, Ao, co, Al, cl, b, n, rfl, h1, h2, h3, h4⟩ := hC6; have HCV := Aside0.mk (show Cos w6 _ C from ⟨Ae, ce, Ao, co, Al, cl, b, n, rfl, h1, h2, h3, h4⟩); have HL6 := Aside0.mk h3; have HS6 := Aside0.mk hb6.size; have gx0 := cell_keep hx0 hb6; have gx1 := cell_keep hx1 hb6; have gy0 := cell_keep hy0 hb6; have gy1 := cell_keep hy1 hb6; have gl1 := Nat.lt_of_lt_of_le hlt hb6.size; have gl0 := Nat.lt_of_lt_of_le hl0 hb6.size; clear hx0 hx1 hy0 hy1 hlt hl0; have HB6 := Aside0.mk (below_step HB5.out hb6); clear hb6 h1 h2 h3 h4))
      obtain ⟨w9, hw9⟩ : ∃ w9 : World, w9 = w6.alloc (.cells #[.slice Ae C.els.length ce, .slice Ao C.own.length co, .slice Al C.least.length cl, .map (some b)] 81) := ⟨_, rfl⟩
      have hb9 : Below w6.heap.size w6 w9 := by rw [hw9]; exact below_alloc (Below.refl _ _) _
      have hx9 : w9.heap[w6.heap.size]? = some (.cells #[.slice Ae C.els.length ce, .slice Ao C.own.length co, .slice Al C.least.length cl, .map (some b)] 81 (0, 0)) := by rw [hw9]; exact blk_new _ _
      have HX9 := Aside0.mk hx9
      have HB9 := Aside0.mk (below_step HB6.out hb9)
      have HCV9 := Aside0.mk (HCV.out.below hb9)
      have HGY1 := Aside0.mk (cell_keep gy1 hb9)
      have HGX1 := Aside0.mk (cell_keep gx1 hb9)
      have HL9 := Aside0.mk (Kd.C_below HL6.out.2 hb9)
      have HLC := Aside0.mk HL6.out.1
      rw [← hw9]
      clear hw9 hb9 hx9 gx0 gx1 gy0 gy1 gl0 gl1 HST
      go_loopg [31, 8] l0.length (fun kq v31 v8 w' => ∃ (i : Nat) (acc : List (List Int)), v31 = .int .i64 (i : Int) ∧ Aside0 (Kd.S (Kd.slice 3 (Kd.int .i64)) 43 w' w9.heap.size (fun b => w9.heap.size ≤ b) v8 acc) ∧ Aside0 (Below w9.heap.size w9 w') ∧ Aside0 (numRows k C (fun q p => coset_mul.f k p q) (l0.drop i) acc = some t) ∧ Aside0 (i + kq = l0.length ∧ acc.length = i))
      case atStart => exact ⟨0, [], (by first | rfl | (simp; done)), ⟨Kd.S_nil _ _ _ _ _⟩, ⟨Below.refl _ _⟩, H, ⟨by omega, rfl⟩⟩
      case round =>
        clear H
        obtain ⟨i, acc, rfl, HO, HB, HA, HI⟩ := hrel
        have ha := HA.out
        clear HA
        obtain ⟨Aq, cq, eo⟩ := Kd.R_slice (Kd.S_R HO.out)
        subst eo
        cases gk with
        | zero =>
          have hj : (i < l0.length) = False := eq_false (by have := HI.out; omega)
          have hj2 : ((i : Int) < (l0.length : Int)) = False := eq_false (by have := HI.out; omega)
          rw [List.drop_eq_nil_of_le (by have := HI.out; omega)] at ha
          obtain rfl : acc = t := Option.some.inj ha
          clear ha
          go_wp2
          go_ret2
          exact ⟨_, rfl, Kd.S_mono (Kd.S_lower HO.out HB9.out.size) (fun _ _ => trivial), below_step HB9.out HB.out⟩
        | succ m =>
          have hil : i < l0.length := by have := HI.out; omega
          have hj : (i < l0.length) = True := eq_true hil
          have hj2 : ((i : Int) < (l0.length : Int)) = True := eq_true (by omega)
          have hj0 : (0 ≤ (i : Int)) = True := eq_true (by omega)
          have wi : wrap64 ((i : Int) + 1) = ((i + 1 : Nat) : Int) := (IntWalk.wrap64_in _ ⟨by omega, by have := HLN.out; omega⟩).trans (by omega)
          obtain ⟨ad, gv, eA, hcell0, hga⟩ := row_at HG0.out (List.getElem?_eq_getElem hil)
          subst eA
          obtain ⟨a2, ca2, e2, hle2, hC2⟩ := hga
          rw [e2] at hcell0
          rw [List.drop_eq_getElem_cons hil, numRows] at ha
          obtain ⟨q, hp⟩ : ∃ q, l0[i] = q := ⟨_, rfl⟩
          rw [hp] at hcell0 hle2 hC2 ha
          replace ha := Option.bind_eq_some_iff.1 ha
          obtain ⟨row, hrow, ha⟩ := ha
          have HROW := Aside0.mk hrow
          have HA := Aside0.mk ha
          have hcell1 := cell_keep hcell0 (below_step HB9.out HB.out)
          have HX := Aside0.mk ((HB.out.block _ (blk_lt HX9.out)).trans HX9.out)
          have hxlt := blk_lt HX.out
          obtain ⟨f0, f1, f2, f3⟩ := cos_cells HX.out
          have HLE2 := Aside0.mk hle2
          have HC2 := Aside0.mk (Kd.C_below hC2 (below_step HB9.out HB.out))
          clear hp hcell0 hle2 hC2 e2 hrow ha
          go_wp2
          clear f0 f1 f2 f3 hxlt
          have HXLT := Aside0.mk (blk_lt HX.out)
          have HCP := HC2
          obtain ⟨w1, hw1⟩ : ∃ x, x = wr := ⟨_, rfl⟩
          subst hw1
          clear hj hj2 hj0
          go_loopg [38, 11] C.least.length (fun kq v38 v11 w' => ∃ (j : Nat) (ra : List Int), v38 = .int .i64 (j : Int) ∧ Aside0 (Kd.R (Kd.int .i64) 3 w' w1.heap.size (fun b => w1.heap.size ≤ b) v11 ra) ∧ Aside0 (Below w1.heap.size w1 w') ∧ Aside0 (numRow k C (fun p => coset_mul.f k p q) (C.least.drop j) ra = some row) ∧ Aside0 (j + kq = C.least.length ∧ ra.length = j))
          case atStart => exact ⟨0, [], (by first | rfl | (simp; done)), ⟨Kd.R_nil _ _ _ _ _⟩, ⟨Below.refl _ _⟩, HROW, ⟨by omega, rfl⟩⟩
          case round =>
            clear HROW
            obtain ⟨j, ra, rfl, HR, HB6, HAR, HJ⟩ := hrel
            have ha := HAR.out
            clear HAR
            obtain ⟨Ar, cr, er⟩ := Kd.R_slice HR.out
            subst er
            cases gk with
            | zero =>
              have hj : (j < C.least.length) = False := eq_false (by have := HJ.out; omega)
              have hj2 : ((j : Int) < (C.least.length : Int)) = False := eq_false (by have := HJ.out; omega)
              rw [List.drop_eq_nil_of_le (by have := HJ.out; omega)] at ha
              obtain rfl : ra = row := Option.some.inj ha
              clear ha
              obtain ⟨A7, eA7⟩ : ∃ x, Ar = x := ⟨_, rfl⟩
              obtain ⟨c7, ec7⟩ : ∃ x, cr = x := ⟨_, rfl⟩
              subst eA7
              subst ec7
              have HR7 := HR
              have HB7 := HB6
              have HN7 : Aside0 (∀ b, some b = (Value.slice Ar ra.length cr).ownBlock → w9.heap.size ≤ b ∧ some b ≠ (Value.slice Aq acc.length cq).ownBlock) := ⟨fun b hb => ⟨Nat.le_trans HB.out.size (Kd.R_base HR.out b hb.symm), fun e => by have h1 := Kd.R_base HR.out b hb.symm; have h2 := Kd.R_lt (Kd.S_R HO.out) b e.symm; omega⟩⟩
              have HS7 := Aside0.mk (Kd.S_mono (ok' := fun b => w9.heap.size ≤ b ∧ ¬ some b = (Value.slice Ar ra.length cr).ownBlock) (Kd.S_step (w1 := wr) (Kd.S_mono (ok' := fun b => w9.heap.size ≤ b ∧ b < w1.heap.size) (Kd.S_bound HO.out) (fun b hb => ⟨hb.1, hb.2.2.1⟩)) (fun b hb hlt => HB6.out.block b hb.2)) (fun b hb => ⟨hb.1, fun e => Nat.lt_irrefl b (Nat.lt_of_lt_of_le hb.2 (Kd.R_base HR.out b e.symm))⟩))
              have HAL : Aside0 (acc.length ≤ 1000000) := ⟨by have := HI.out; have := HLN.out; omega⟩
              go_wp2_with ((with_reducible refine gate_builtin (b := .append) (xs := #[.tmp 51, .tmp 53]) rfl ?_); at_builtin; refine Kd.S_append (Kd.slice 3 (Kd.int .i64)) (w0 := w9) w9.heap.size rfl (.tmp 51) (.tmp 53) 22 43 (.slice none 0 0) 24 rfl Try.underlying22 perm_info rfl (by decide) (by omega) (.slice Aq acc.length cq) acc ra [.slice Ar ra.length cr] (fun b => w9.heap.size ≤ b) (fun b => some b = (Value.slice Ar ra.length cr).ownBlock) ?hs ?hx ?hp ?hokp ?hf ?hO ?hB ?hb ?hl ?_; (case hs => rfl); (case hx => rfl); (case hp => exact ⟨_, rfl, Kd.R_tight rfl (Kd.R_lower HR7.out HB.out.size)⟩); (case hokp => exact fun b hb => HN7.out b hb); (case hf => exact fun b hb => Nat.le_trans (Nat.le_trans HB.out.size HB7.out.size) hb); (case hO => exact HS7.out); (case hB => exact below_step HB.out HB7.out); (case hb => exact (below_step HB.out HB7.out).size); (case hl => have := HAL.out; omega); intro v1 wx ho hb hg hat; have el : (acc ++ [ra]).length = acc.length + 1 := (by simp); obtain ⟨A8, c8, e8⟩ := Kd.R_slice (Kd.S_R ho); subst e8; rw [el] at ho ⊢; clear el; have HO1 := Aside0.mk ho; have HB1 := Aside0.mk hb; clear ho hb hg hat)
              go_roundg m
              case measure => exact Nat.lt_succ_self _
              case rel => exact ⟨i + 1, _, (by first | (rw [wi]; done) | rfl), HO1, HB1, HA, ⟨by have := HI.out; omega, by rw [List.length_append, HI.out.2]; rfl⟩⟩
            | succ m2 =>
              have hjl : j < C.least.length := by have := HJ.out; omega
              have hj : (j < C.least.length) = True := eq_true hjl
              have hj2 : ((j : Int) < (C.least.length : Int)) = True := eq_true (by omega)
              have hj0 : (0 ≤ (j : Int)) = True := eq_true (by omega)
              have wj : wrap64 ((j : Int) + 1) = ((j + 1 : Nat) : Int) := (IntWalk.wrap64_in _ ⟨by omega, by have := HE1.out; omega⟩).trans (by omega)
              obtain ⟨ad', gv, eA, hcell0, hga⟩ := row_at HL9.out (List.getElem?_eq_getElem hjl)
              subst eA
              obtain ⟨a3, ca3, e2, hle3, hC3⟩ := hga
              rw [e2] at hcell0
              rw [List.drop_eq_getElem_cons hjl, numRow] at ha
              obtain ⟨p, hq⟩ : ∃ p, C.least[j] = p := ⟨_, rfl⟩
              rw [hq] at hcell0 hle3 hC3 ha
              replace ha := Option.bind_eq_some_iff.1 ha
              obtain ⟨y, hy, ha⟩ := ha
              replace ha := Option.bind_eq_some_iff.1 ha
              obtain ⟨s, hks, ha⟩ := ha
              have hss : s.size ≤ 1000 := by
                by_cases e : s.size ≤ 1000
                · exact e
                · rw [if_neg e] at ha; cases ha
              rw [if_pos hss] at ha
              have HY := Aside0.mk hy
              have HKS := Aside0.mk hks
              have HSS := Aside0.mk hss
              have HAR := Aside0.mk ha
              have HLE3 := Aside0.mk hle3
              have HC3 := Aside0.mk (Kd.C_below hC3 (below_step HB.out HB6.out))
              have HCP := Aside0.mk (Kd.C_below HCP.out HB6.out)
              have HRW := HR
              have HRL : Aside0 (ra.length ≤ 6000) := ⟨by have := HJ.out; have := HE1.out; omega⟩
              have hcell3 := cell_keep hcell0 (below_step HB.out HB6.out)
              obtain ⟨f0, f1, f2, f3⟩ := cos_cells ((HB6.out.block _ HXLT.out).trans HX.out)
              clear hq hcell0 hle3 hC3 e2 ha hy hks hss
              go_wp2
              go_region_law (first
                | (refine Kd.R_append_step (Kd.int .i64) (w0 := w1) w1.heap.size (by rfl) (.tmp 42) (.tmp 48) 43 3 (.int .i64 0) 8 rfl Try.underlying43 int_infoC rfl (by decide) (by omega) (.slice Ar ra.length cr) ra ((C.num s).getD 0) [.int .i64 ((C.num s).getD 0)] (fun b => w1.heap.size ≤ b) (fun _ => False) ?hs ?hx ?hp ?hokp ?hf ?hO ?hB ?hb ?hl ?_; (case hs => exact rfl); (case hx => exact rfl); (case hp => exact rfl); (case hokp => exact fun _ h => h.elim); (case hf => exact fun b hb => Nat.le_trans HB8.out.size hb); (case hO => exact HR8.out); (case hB => exact HB8.out); (case hb => exact HB8.out.size); (case hl => have := HRL.out; omega); intro v1 wx ho hb hg hat; have el : (ra ++ [(C.num s).getD 0]).length = ra.length + 1 := (by simp); obtain ⟨A9, c9, e9⟩ := Kd.R_slice ho; subst e9; rw [el] at ho ⊢; have HR9 := Aside0.mk ho; have HB9 := Aside0.mk hb; clear ho hb hg hat el)
                | (go_simp; go_at_call 54; (refine (coset_mul.calls k a3 ca3 p a2 ca2 q y _ (Kd.C_below HC3.out bel0) HLE3.out (Kd.C_below HCP.out bel0) HLE2.out HY.out).mono ?_); rintro e w7 ⟨v7, rfl, hr7, hb7⟩; have HB7 := Aside0.mk (below_step HB6.out (below_step (w := wr) bel0 hb7)); have HBR7 := Aside0.mk (below_step (w := wr) bel0 hb7); obtain ⟨A7, c7, e7⟩ := Kd.R_slice hr7; subst e7; have HR7 := Aside0.mk hr7; obtain ⟨k0, k1, k2, k3⟩ := cos_cells ((HB7.out.block _ HXLT.out).trans HX.out); have hxl7 := Nat.lt_of_lt_of_le HXLT.out HB7.out.size; clear hr7 hb7)
                | (go_simp; go_at_call 53; (refine (of_any k C y s (HCV9.out.below ((below_step HB.out (below_step HB7.out bel0)))) (Kd.C_below (Kd.R_reads' HR7.out).2.2 bel0) (Kd.R_reads' HR7.out).2.1 HKS.out HSS.out).mono ?_); rintro e w8 ⟨rfl, hb8⟩; have HB8 := Aside0.mk (below_step HB7.out (below_step (w := w7) bel0 hb8)); have HR8 := Aside0.mk (Kd.R_below HRW.out (below_step (w := wr) HBR7.out (below_step (w := w7) bel0 hb8))); obtain ⟨mm0, mm1, mm2, mm3⟩ := cos_cells ((HB8.out.block _ HXLT.out).trans HX.out); clear hb8))
              all_goals
                go_wp2
                go_roundg m2
                case measure => exact Nat.lt_succ_self _
                case rel => exact ⟨j + 1, _, (by first | (rw [wj]; done) | rfl), HR9, HB9, HAR, ⟨by have := HJ.out; omega, by rw [List.length_append, HJ.out.2]; rfl⟩⟩
    · rw [if_neg e1] at h
      obtain ⟨rfl, rfl⟩ : [] = r1 ∧ 4 = r2 := ⟨congrArg Prod.fst (Option.some.inj h), congrArg Prod.snd (Option.some.inj h)⟩
      have e2 : (20 < C.least.length) = True := eq_true (by omega)
      have e3 : ((20 : Int) < (C.least.length : Int)) = True := eq_true (by omega)
      clear h hC e1
      go_wp2_with (first | (go_at_call 49; (refine (check_any k (a0, l0) [(a1, l1)] [] 0 (rows := [(a1, (A1, l1.length, c1))]) ⟨rfl, HC0.out, Kd.C_below HG0.out bel0⟩ (one_grp HST.out.2.2 HC1.out (Kd.C_below HG1.out bel0)) (Or.inr ⟨_, rfl⟩) (Nat.le_refl _) (by simp) (by simp) ⟨rfl, by simp, fun h => absurd h (by simp)⟩ (Nat.zero_le _) HK.out).mono ?_); rintro e w5 ⟨rfl, hb5⟩; have hx0 : w5.cell? ⟨w.heap.size, 0, none⟩ = some (.int .i64 a0) := blk_cell ((hb5.block _ (blk_lt HST.out.1)).trans HST.out.1) 0; have hx1 : w5.cell? ⟨w.heap.size, 1, none⟩ = some (.slice A0 l0.length c0) := blk_cell ((hb5.block _ (blk_lt HST.out.1)).trans HST.out.1) 1; have hy0 : w5.cell? ⟨w.heap.size + 1, 0, none⟩ = some (.int .i64 a1) := blk_cell ((hb5.block _ (blk_lt HST.out.2.1)).trans HST.out.2.1) 0; have hy1 : w5.cell? ⟨w.heap.size + 1, 1, none⟩ = some (.slice A1 l1.length c1) := blk_cell ((hb5.block _ (blk_lt HST.out.2.1)).trans HST.out.2.1) 1; have hlt := Nat.lt_of_lt_of_le (blk_lt HST.out.2.1) hb5.size; have hl0 : w.heap.size < w5.heap.size := (by omega); have HB5 : Aside0 (Below w.heap.size w w5) := ⟨below_step (below_alloc (below_alloc (below_alloc (Below.refl _ _) _) _) _) hb5⟩; clear hb5) | (go_at_call 51; (refine (cosetsOf_any k a0 A0 c0 l0 a1 A1 c1 l1 C _ (Kd.C_below HG0.out HB5.out) HC0.out (Kd.C_below HG1.out HB5.out) HC1.out HM.out).mono ?_); rintro e w6 ⟨v, rfl, hC6, hb6⟩; obtain ⟨Ae, ce, Ao, co, Al, cl, b, n, rfl, h1, h2, h3, h4⟩ := hC6; have HCV := Aside0.mk (show Cos w6 _ C from ⟨Ae, ce, Ao, co, Al, cl, b, n, rfl, h1, h2, h3, h4⟩); have HL6 := Aside0.mk h3; have HS6 := Aside0.mk hb6.size; have gx0 := cell_keep hx0 hb6; have gx1 := cell_keep hx1 hb6; have gy0 := cell_keep hy0 hb6; have gy1 := cell_keep hy1 hb6; have gl1 := Nat.lt_of_lt_of_le hlt hb6.size; have gl0 := Nat.lt_of_lt_of_le hl0 hb6.size; clear hx0 hx1 hy0 hy1 hlt hl0; have HB6 := Aside0.mk (below_step HB5.out hb6); clear hb6 h1 h2 h3 h4))
      go_ret2
      exact ⟨_, rfl, Kd.S_nil _ _ _ _ _, below_alloc HB6.out _⟩
  · rw [if_neg e0] at h
    obtain ⟨rfl, rfl⟩ : [] = r1 ∧ e1 = r2 := ⟨congrArg Prod.fst (Option.some.inj h), congrArg Prod.snd (Option.some.inj h)⟩
    have q1 : (e1 == 0) = false := beq_eq_false_iff_ne.mpr e0
    have q2 : (e1 != 0) = true := bne_iff_ne.mpr e0
    clear h e0
    go_wp2_with (go_at_call 49; (refine (check_any k (a0, l0) [(a1, l1)] [] e1 (rows := [(a1, (A1, l1.length, c1))]) ⟨rfl, HC0.out, Kd.C_below HG0.out bel0⟩ (one_grp HST.out.2.2 HC1.out (Kd.C_below HG1.out bel0)) (Or.inr ⟨_, rfl⟩) (Nat.le_refl _) (by simp) (by simp) ⟨rfl, by simp, fun h => absurd h (by simp)⟩ (Nat.zero_le _) HK.out).mono ?_); rintro e w5 ⟨rfl, hb5⟩; have hx0 : w5.cell? ⟨w.heap.size, 0, none⟩ = some (.int .i64 a0) := blk_cell ((hb5.block _ (blk_lt HST.out.1)).trans HST.out.1) 0; have hx1 : w5.cell? ⟨w.heap.size, 1, none⟩ = some (.slice A0 l0.length c0) := blk_cell ((hb5.block _ (blk_lt HST.out.1)).trans HST.out.1) 1; have hy0 : w5.cell? ⟨w.heap.size + 1, 0, none⟩ = some (.int .i64 a1) := blk_cell ((hb5.block _ (blk_lt HST.out.2.1)).trans HST.out.2.1) 0; have hy1 : w5.cell? ⟨w.heap.size + 1, 1, none⟩ = some (.slice A1 l1.length c1) := blk_cell ((hb5.block _ (blk_lt HST.out.2.1)).trans HST.out.2.1) 1; have hlt := Nat.lt_of_lt_of_le (blk_lt HST.out.2.1) hb5.size; have hl0 : w.heap.size < w5.heap.size := (by omega); have HB5 : Aside0 (Below w.heap.size w w5) := ⟨below_step (below_alloc (below_alloc (below_alloc (Below.refl _ _) _) _) _) hb5⟩; clear hb5)
    go_ret2
    exact ⟨_, rfl, Kd.S_nil _ _ _ _ _, HB5.out⟩
end Go.Proofs.Ytaaaljifclecnaa.Bs
end
section
/- What the chapter's example comes to. -/
namespace Go.Proofs.Ytaaaljifclecnaa.Bs
open Go.RowKit Go.Proofs.YtaaaljifclecnaaW.PrintWords Go.Proofs.YtaaaljifclecnaaW.PrintLast Go.Proofs.YtaaaljifclecnaaW.PrintMore Go.Proofs.Ytaaaljifclecnaa.Plain Go.Proofs.Ytaaaljifclecnaa.PBs
set_option maxRecDepth 100000 in
theorem aw_index : indexV 60 3 [[1, 0, 2], [1, 2, 0]] 3 [[0, 2, 1]] = some (3, 0) := by decide +kernel
set_option maxRecDepth 100000 in
theorem aw_reps : repsV 60 3 [[1, 0, 2], [1, 2, 0]] 3 [[0, 2, 1]] = some ([[0, 1, 2], [1, 0, 2], [2, 0, 1]], 0) := by decide +kernel
set_option maxRecDepth 100000 in
theorem aw_act : actV 60 3 [[1, 0, 2], [1, 2, 0]] 3 [[0, 2, 1]] = some ([[1, 0, 2], [1, 2, 0]], 0) := by decide +kernel
set_option maxRecDepth 100000 in
theorem aw_quot : quotV 60 3 [[1, 0, 2], [1, 2, 0]] 3 [[1, 2, 0]] = some ([[0, 1], [1, 0]], 0) := by decide +kernel
end Go.Proofs.Ytaaaljifclecnaa.Bs
end
section
/- The walk of coset.DoubleCosets. -/
namespace Go.Proofs.Ytaaaljifclecnaa.Bs
open Go.RowKit Go.Maps Go.Proofs.YtaaaljifclecnaaW.PrintWords Go.Proofs.YtaaaljifclecnaaW.PrintLast Go.Proofs.YtaaaljifclecnaaW.PrintMore Go.Proofs.Ytaaaljifclecnaa.Plain Go.Proofs.Ytaaaljifclecnaa.PBs
open Go.Proofs.Ytaaaljifclecnaa.PCo (coset_mul.f coset_mul.mono coset_mul.calls coset_key.f coset_key.mono coset_key.calls)
set_option maxHeartbeats 16000000 in
set_option maxRecDepth 100000 in
theorem doub_any (k : Nat) (a0 : Int) (A0 : Option Addr) (c0 : Nat) (l0 : List (List Int)) (a1 : Int) (A1 : Option Addr) (c1 : Nat) (l1 : List (List Int)) (a2 : Int) (A2 : Option Addr) (c2 : Nat) (l2 : List (List Int)) (r1 : List (List Int)) (r2 : List Int) (r3 : Int) (w : World) (hr0 : Kd.C (Kd.slice 3 (Kd.int .i64)) w A0 l0.length l0) (hc0 : l0.length ≤ c0) (hr1 : Kd.C (Kd.slice 3 (Kd.int .i64)) w A1 l1.length l1) (hc1 : l1.length ≤ c1) (hr2 : Kd.C (Kd.slice 3 (Kd.int .i64)) w A2 l2.length l2) (hc2 : l2.length ≤ c2) (h : doubV k a0 l0 a1 l1 a2 l2 = some (r1, r2, r3)) :
    Calls Try.prog 30 #[.agg #[.int .i64 a0, .slice A0 l0.length c0], .agg #[.int .i64 a1, .slice A1 l1.length c1], .agg #[.int .i64 a2, .slice A2 l2.length c2]] w fun e w' => ∃ v0_ v1_ : Value, e = .returned (.tuple #[v0_, v1_, .int .i64 r3]) ∧ Kd.S (Kd.slice 3 (Kd.int .i64)) 43 w' w.heap.size (fun k_ => some k_ ≠ v1_.ownBlock) v0_ r1 ∧ Kd.R (Kd.int .i64) 3 w' w.heap.size (fun _ => True) v1_ r2 ∧ Below w.heap.size w w' := by
  have hu := Try.underlying24
  have hu2 := Try.underlying81
  have hf2 := run_least
  have HG0 := Aside0.mk hr0
  have HC0 := Aside0.mk hc0
  have HG1 := Aside0.mk hr1
  have HC1 := Aside0.mk hc1
  have HG2 := Aside0.mk hr2
  have HC2 := Aside0.mk hc2
  unfold doubV at h
  replace h := Option.bind_eq_some_iff.1 h
  obtain ⟨e1, hk, h⟩ := h
  have HK := Aside0.mk hk
  clear hr0 hc0 hr1 hc1 hr2 hc2 hk
  have HST := Aside0.mk (start4 w (.cells #[.int .i64 a0, .slice A0 l0.length c0] 24) (.cells #[.int .i64 a1, .slice A1 l1.length c1] 24) (.cells #[.int .i64 a2, .slice A2 l2.length c2] 24) (.cells #[.int .i64 a1, .slice A1 l1.length c1, .int .i64 a2, .slice A2 l2.length c2] 24))
  go_enter Try.func30, Try.ntmps30
  by_cases e0 : e1 = 0
  · subst e0
    rw [if_pos rfl] at h
    replace h := Option.bind_eq_some_iff.1 h
    obtain ⟨C, hC, h⟩ := h
    have hfit : fitL C.least = true ∧ l2.length < 1000000 := by
      by_cases e : fitL C.least = true ∧ l2.length < 1000000
      · exact e
      · rw [if_neg e] at h; cases h
    rw [if_pos hfit] at h
    replace h := Option.bind_eq_some_iff.1 h
    obtain ⟨⟨t1, t2⟩, ht, h⟩ := h
    obtain ⟨rfl, rfl, rfl⟩ : t1 = r1 ∧ t2 = r2 ∧ 0 = r3 := ⟨congrArg Prod.fst (Option.some.inj h), congrArg (fun x => x.2.1) (Option.some.inj h), congrArg (fun x => x.2.2) (Option.some.inj h)⟩
    have HM := Aside0.mk hC
    have HF := Aside0.mk hfit
    have HT := Aside0.mk ht
    have hmk := print_make_of (P := Try.prog) 93 4 (.bool false) 1 Try.underlying93 bool_info rfl (by omega) C.least.length (by have := fitL_len hfit.1; omega)
    clear h hC ht hfit
    go_wp2_with (first | (go_at_call 49; (refine (check_any k (a0, l0) [(a1, l1), (a2, l2)] [] 0 (rows := [(a1, (A1, l1.length, c1)), (a2, (A2, l2.length, c2))]) ⟨rfl, HC0.out, Kd.C_below HG0.out bel0⟩ (two_grp HST.out.2.2.2 HC1.out (Kd.C_below HG1.out bel0) HC2.out (Kd.C_below HG2.out bel0)) (Or.inr ⟨_, rfl⟩) (Nat.le_refl _) (by simp) (by simp) ⟨rfl, by simp, fun h => absurd h (by simp)⟩ (Nat.zero_le _) HK.out).mono ?_); rintro e w5 ⟨rfl, hb5⟩; have hx0 : w5.cell? ⟨w.heap.size, 0, none⟩ = some (.int .i64 a0) := blk_cell ((hb5.block _ (blk_lt HST.out.1)).trans HST.out.1) 0; have hx1 : w5.cell? ⟨w.heap.size, 1, none⟩ = some (.slice A0 l0.length c0) := blk_cell ((hb5.block _ (blk_lt HST.out.1)).trans HST.out.1) 1; have hy0 : w5.cell? ⟨w.heap.size + 1, 0, none⟩ = some (.int .i64 a1) := blk_cell ((hb5.block _ (blk_lt HST.out.2.1)).trans HST.out.2.1) 0; have hy1 : w5.cell? ⟨w.heap.size + 1, 1, none⟩ = some (.slice A1 l1.length c1) := blk_cell ((hb5.block _ (blk_lt HST.out.2.1)).trans HST.out.2.1) 1; have HZ5 := Aside0.mk (show w5.cell? ⟨w.heap.size + 1 + 1, 1, none⟩ = some (.slice A2 l2.length c2) from blk_cell ((hb5.block _ (blk_lt HST.out.2.2.1)).trans HST.out.2.2.1) 1); have hlt := Nat.lt_of_lt_of_le (blk_lt HST.out.2.1) hb5.size; have hl0 : w.heap.size < w5.heap.size := (by omega); have HB5 : Aside0 (Below w.heap.size w w5) := ⟨below_step (below_alloc (below_alloc (below_alloc (below_alloc (Below.refl _ _) _) _) _) _) hb5⟩; clear hb5) | (go_at_call 51; (refine (cosetsOf_any k a0 A0 c0 l0 a1 A1 c1 l1 C _ (Kd.C_below HG0.out HB5.out) HC0.out (Kd.C_below HG1.out HB5.out) HC1.out HM.out).mono ?_); rintro e w6 ⟨v, rfl, hC6, hb6⟩; obtain ⟨Ae, ce, Ao, co, Al, cl, b, n, rfl, h1, h2, h3, h4⟩ := hC6; have HCV := Aside0.mk (show Cos w6 _ C from ⟨Ae, ce, Ao, co, Al, cl, b, n, rfl, h1, h2, h3, h4⟩); have HL6 := Aside0.mk h3; have HZ6 := Aside0.mk (cell_keep HZ5.out hb6); clear hx0 hx1 hy0 hy1 hlt hl0; have HB6 := Aside0.mk (below_step HB5.out hb6); have hu6 : (w6.alloc (.cells #[.slice Ae C.els.length ce, .slice Ao C.own.length co, .slice Al C.least.length cl, .map (some b)] 81)).cell? ⟨w6.heap.size, 2, none⟩ = some (.slice Al C.least.length cl) := blk_cell (blk_new _ _) 2; clear hb6 h1 h2 h3 h4))
    obtain ⟨wc, hwc⟩ : ∃ wc : World, wc = w6.alloc (.cells #[.slice Ae C.els.length ce, .slice Ao C.own.length co, .slice Al C.least.length cl, .map (some b)] 81) := ⟨_, rfl⟩
    have hbc : Below w6.heap.size w6 wc := by rw [hwc]; exact below_alloc (Below.refl _ _) _
    have hxc : wc.heap[w6.heap.size]? = some (.cells #[.slice Ae C.els.length ce, .slice Ao C.own.length co, .slice Al C.least.length cl, .map (some b)] 81 (0, 0)) := by rw [hwc]; exact blk_new _ _
    have HXC := Aside0.mk hxc
    have HBC := Aside0.mk (below_step HB6.out hbc)
    have HCVC := Aside0.mk (HCV.out.below hbc)
    have HZC := Aside0.mk (cell_keep HZ6.out hbc)
    have HLC := Aside0.mk HL6.out.1
    have HLD := Aside0.mk (Kd.C_below HL6.out.2 hbc)
    have hst := DbAt.start (W0 := wc) (m := C.least.length) (by have := fitL_len HF.out.1; omega)
    have hcs : wc.heap.size = w6.heap.size + 1 := by rw [hwc]; simp
    rw [hcs] at hst
    have HS0 := Aside0.mk hst
    rw [← hwc]
    clear hwc hbc hxc hu6 hst HST HZ5 HZ6 HCV HL6
    obtain ⟨X, hX⟩ : ∃ X, w6.heap.size = X := ⟨_, rfl⟩
    rw [hX] at HXC
    rw [hX] at hcs HS0
    simp only [hX]
    go_loopg [39, 12, 13] C.least.length (fun kq v39 v12 v13 w' => ∃ (i : Nat) (ρ : Nat → Nat) (seen : List Bool) (L : List (List Int)) (Z O : List Int) (vl vz vo : Value), v39 = .int .i64 (i : Int) ∧ vl = v12 ∧ vz = v13 ∧ Aside0 (DbAt wc ρ w' (.slice (some ⟨X + 1, 0, none⟩) C.least.length C.least.length) vl vz vo seen L Z O) ∧ Aside0 (dblAll k C l2 i (C.least.drop i) seen L Z = some (t1, t2)) ∧ Aside0 (i + kq = C.least.length ∧ seen.length = C.least.length ∧ L.length ≤ i ∧ Z.length = L.length))
    case atStart => exact ⟨0, _, _, _, _, _, _, _, _, (by first | rfl | (simp; done)), rfl, rfl, HS0, HT, ⟨by omega, by simp, by simp, by simp⟩⟩
    case round =>
      clear HT HS0
      obtain ⟨i, ρ, seen, L, Z, O, vl, vz, vo, rfl, rfl, rfl, HD, HA, HI⟩ := hrel
      have ha := HA.out
      clear HA
      cases gk with
      | zero =>
        have hj : (i < C.least.length) = False := eq_false (by have := HI.out; omega)
        have hj2 : ((i : Int) < (C.least.length : Int)) = False := eq_false (by have := HI.out; omega)
        rw [List.drop_eq_nil_of_le (by have := HI.out; omega)] at ha
        obtain ⟨rfl, rfl⟩ : L = t1 ∧ Z = t2 := ⟨congrArg Prod.fst (Option.some.inj ha), congrArg Prod.snd (Option.some.inj ha)⟩
        clear ha
        go_wp2
        go_ret3
        refine ⟨_, _, rfl, Kd.S_mono (Kd.S_lower HD.out.rl HBC.out.size) (fun b hb e => ?_), Kd.R_mono (Kd.R_lower HD.out.rz HBC.out.size) (fun _ _ => trivial), below_step HBC.out HD.out.bel⟩
        have := HD.out.rz.1 b e.symm
        omega
      | succ m =>
        have hil : i < C.least.length := by have := HI.out; omega
        have hj : (i < C.least.length) = True := eq_true hil
        have hj2 : ((i : Int) < (C.least.length : Int)) = True := eq_true (by omega)
        have hj0 : (0 ≤ (i : Int)) = True := eq_true (by omega)
        have wi : wrap64 ((i : Int) + 1) = ((i + 1 : Nat) : Int) := (IntWalk.wrap64_in _ ⟨by omega, by have := fitL_len HF.out.1; omega⟩).trans (by omega)
        obtain ⟨ad, gv, eA, hcell0, hga⟩ := row_at HLD.out (List.getElem?_eq_getElem hil)
        subst eA
        obtain ⟨a3, ca3, e2, hle3, hC3⟩ := hga
        rw [e2] at hcell0
        rw [List.drop_eq_getElem_cons hil, dblAll] at ha
        have hp1 : C.least[i].length ≤ 1000000 := fitL_at HF.out.1 (List.getElem_mem hil)
        obtain ⟨p, hp⟩ : ∃ p, C.least[i] = p := ⟨_, rfl⟩
        rw [hp] at hcell0 hle3 hC3 ha hp1
        have hcell1 := cell_keep hcell0 HD.out.bel
        obtain ⟨sb, hsb⟩ : ∃ sb, seen.getD i false = sb := ⟨_, rfl⟩
        have hseen : wr.cell? ⟨X + 1, i, none⟩ = some (.bool sb) := by
          obtain ⟨cs, hc, hM, hcc, hf⟩ := Kd.R_elem HD.out.rs false (i : Int) (by omega) (by omega)
          rw [Int.toNat_natCast] at hM hcc
          have hM : cs = [.bool (seen.getD i false)] := hM
          subst hM
          have h1 := hcc 0 _ rfl
          rw [show i * Kd.bool.sz + 0 = i from Nat.mul_one i, hsb] at h1
          exact h1
        have hfro : wr.frozen? ⟨X + 1, i, none⟩ = false := by
          obtain ⟨cs, hc, hM, hcc, hf⟩ := Kd.R_elem HD.out.rs false (i : Int) (by omega) (by omega)
          rw [Int.toNat_natCast] at hf
          have h2 := hf 0
          rw [show i * Kd.bool.sz + 0 = i from Nat.mul_one i] at h2
          exact h2
        rw [hsb] at ha
        have HP1 := Aside0.mk hp1
        have HLE3 := Aside0.mk hle3
        have HC3 := Aside0.mk hC3
        have HIL := Aside0.mk hil
        cases sb with
        | true =>
          rw [if_pos rfl] at ha
          have HA := Aside0.mk ha
          clear ha hp hcell0 hle3 hC3 e2 hp1 hsb hil
          go_wp2
          go_roundg m
          case measure => exact Nat.lt_succ_self _
          case rel => exact ⟨i + 1, ρ, seen, L, Z, O, _, _, vo, (by first | (rw [wi]; done) | rfl), rfl, rfl, HD, HA, ⟨by have := HI.out; omega, by have := HI.out; omega, by have := HI.out; omega, by have := HI.out; omega⟩⟩
        | false =>
          rw [if_neg (by decide)] at ha
          replace ha := Option.bind_eq_some_iff.1 ha
          obtain ⟨⟨u1, u2⟩, hu1, ha⟩ := ha
          have HA := Aside0.mk ha
          have HU := Aside0.mk hu1
          clear ha hp hcell0 hle3 hC3 e2 hp1 hsb hil hu1
          go_wp2
          have hxi : i < C.least.length := HIL.out
          have hw2s : (wr.setCell ⟨X + 1, i, none⟩ (.bool true)).heap.size = wr.heap.size := World.size_setCell _ _ _
          have hlit := lit_one (wr.setCell ⟨X + 1, i, none⟩ (.bool true)) wc.heap.size (i : Int) (by rw [hw2s]; exact HD.out.bel.size)
          rw [hw2s] at hlit
          have horb := (HD.out.see i hxi).orbit (row := none) (fun b h => by cases h) (Kd.R_mono hlit (fun b hb => Or.inr (by rw [hw2s]; exact Nat.le_of_eq hb.symm))) (grown_of_below (below_alloc (Below.refl _ _) _) none)
          have HO0 := Aside0.mk horb
          have HSL : Aside0 ((seen.set i true).length = C.least.length) := ⟨by rw [List.length_set]; exact HI.out.2.1⟩
          clear hlit horb hw2s hxi hseen hfro hcell1 hj hj2 hj0
          go_loopg [16, 17] k (fun kq v16 v17 w' => ∃ (j : Nat) (ρ2 : Nat → Nat) (seen2 : List Bool) (O2 : List Int) (vo2 : Value), vo2 = v16 ∧ v17 = .int .i64 (j : Int) ∧ Aside0 (DbAt wc ρ2 w' (.slice (some ⟨X + 1, 0, none⟩) C.least.length C.least.length) vl vz vo2 seen2 L Z O2) ∧ Aside0 (dblOrb k C l2 kq j seen2 O2 = some (u1, u2)) ∧ Aside0 (seen2.length = C.least.length))
          case atStart => exact ⟨0, _, _, _, _, rfl, (by first | rfl | (simp; done)), HO0, HU, HSL⟩
          case round =>
            clear HO0 HU HSL HD
            obtain ⟨j, ρ2, seen2, O2, vo2, rfl, rfl, HD2, HU, HSL⟩ := hrel
            have hu1 := HU.out
            clear HU
            cases gk with
            | zero => cases hu1
            | succ m2 =>
              rw [dblOrb] at hu1
              by_cases hjo : j < O2.length
              · rw [if_pos hjo] at hu1
                have hcond : 0 ≤ O2.getD j 0 ∧ O2.getD j 0 < (C.least.length : Int) ∧ O2.length < 100000 := by
                  by_cases e : 0 ≤ O2.getD j 0 ∧ O2.getD j 0 < (C.least.length : Int) ∧ O2.length < 100000
                  · exact e
                  · rw [if_neg e] at hu1; cases hu1
                rw [if_pos hcond] at hu1
                replace hu1 := Option.bind_eq_some_iff.1 hu1
                obtain ⟨⟨s1, s2⟩, hrow, hnext⟩ := hu1
                obtain ⟨on, hon⟩ : ∃ on : Nat, O2.getD j 0 = (on : Int) := ⟨(O2.getD j 0).toNat, by omega⟩
                have honl : on < C.least.length := by omega
                rw [hon, Int.toNat_natCast] at hrow
                have hpj : C.least.getD on [] = C.least[on] := by rw [List.getD_eq_getElem?_getD, List.getElem?_eq_getElem honl]; rfl
                rw [hpj] at hrow
                obtain ⟨ado, gvo, eAo, hcello, hgao⟩ := row_at HLD.out (List.getElem?_eq_getElem honl)
                obtain rfl : ad = ado := Option.some.inj eAo
                obtain ⟨a4, ca4, e4, hle4, hC4⟩ := hgao
                rw [e4] at hcello
                obtain ⟨pj, hpj2⟩ : ∃ pj, C.least[on] = pj := ⟨_, rfl⟩
                rw [hpj2] at hcello hle4 hC4 hrow
                have HCO := Aside0.mk hcello
                have HLE4 := Aside0.mk hle4
                have HC4 := Aside0.mk hC4
                have HON := Aside0.mk (show O2.getD j 0 = (on : Int) from hon)
                have HONL := Aside0.mk honl
                have HROW := Aside0.mk hrow
                have HNEXT := Aside0.mk hnext
                have HJO := Aside0.mk hjo
                have HOL := Aside0.mk hcond.2.2
                obtain ⟨Av, cv, ev⟩ := Kd.R_slice HD2.out.ro
                subst ev
                have q1 : (j < O2.length) = True := eq_true hjo
                have q2 : ((j : Int) < (O2.length : Int)) = True := eq_true (by omega)
                have hz := cell_keep HZC.out HD2.out.bel
                clear hcond hon honl hpj hcello hle4 hC4 e4 hpj2 hrow hnext hjo eAo
                go_wp2
                clear q1 q2 hz
                go_loopg [62, 16] l2.length (fun kq v62 v16 w' => ∃ (t : Nat) (ρ3 : Nat → Nat) (seen3 : List Bool) (O3 : List Int) (vo3 : Value), v62 = .int .i64 (t : Int) ∧ vo3 = v16 ∧ Aside0 (DbAt wc ρ3 w' (.slice (some ⟨X + 1, 0, none⟩) C.least.length C.least.length) vl vz vo3 seen3 L Z O3) ∧ Aside0 (dblRow k C pj (l2.drop t) seen3 O3 = some (s1, s2)) ∧ Aside0 (t + kq = l2.length ∧ seen3.length = C.least.length ∧ j < O3.length ∧ O3.getD j 0 = (on : Int) ∧ O3.length ≤ 100000 + t))
                case atStart => exact ⟨0, ρ2, seen2, O2, _, (by first | rfl | (simp; done)), rfl, HD2, HROW, ⟨by omega, HSL.out, HJO.out, HON.out, by have := HOL.out; omega⟩⟩
                case round =>
                  clear HD2 HROW HSL HJO HON HOL
                  obtain ⟨t, ρ3, seen3, O3, vo3, rfl, rfl, HD3, HROW, HT3⟩ := hrel
                  have hr := HROW.out
                  clear HROW
                  obtain ⟨g3, cap3, ev3, _, _, _, _⟩ := Kd.R_form HD3.out.ro (by have := HT3.out; omega)
                  subst ev3
                  cases gk with
                  | zero =>
                    have hj : (t < l2.length) = False := eq_false (by have := HT3.out; omega)
                    have hj2 : ((t : Int) < (l2.length : Int)) = False := eq_false (by have := HT3.out; omega)
                    rw [List.drop_eq_nil_of_le (by have := HT3.out; omega)] at hr
                    obtain ⟨rfl, rfl⟩ : seen3 = s1 ∧ O3 = s2 := ⟨congrArg Prod.fst (Option.some.inj hr), congrArg Prod.snd (Option.some.inj hr)⟩
                    have wj : wrap64 ((j : Int) + 1) = ((j + 1 : Nat) : Int) := (IntWalk.wrap64_in _ ⟨by omega, by have := HT3.out; have := HF.out.2; omega⟩).trans (by omega)
                    clear hr
                    go_wp2
                    go_roundg m2
                    case measure => exact Nat.lt_succ_self _
                    case rel => exact ⟨j + 1, ρ3, seen3, O3, _, rfl, (by first | (rw [wj]; done) | rfl), HD3, HNEXT, ⟨HT3.out.2.1⟩⟩
                  | succ m3 =>
                    have htl : t < l2.length := by have := HT3.out; omega
                    have hj : (t < l2.length) = True := eq_true htl
                    have hj2 : ((t : Int) < (l2.length : Int)) = True := eq_true (by omega)
                    have hj0 : (0 ≤ (t : Int)) = True := eq_true (by omega)
                    have wt : wrap64 ((t : Int) + 1) = ((t + 1 : Nat) : Int) := (IntWalk.wrap64_in _ ⟨by omega, by have := HF.out.2; omega⟩).trans (by omega)
                    obtain ⟨adq, gvq, eAq, hcellq, hgaq⟩ := row_at HG2.out (List.getElem?_eq_getElem htl)
                    subst eAq
                    obtain ⟨a5, ca5, e5, hle5, hC5⟩ := hgaq
                    rw [e5] at hcellq
                    rw [List.drop_eq_getElem_cons htl, dblRow] at hr
                    obtain ⟨q, hq⟩ : ∃ q, l2[t] = q := ⟨_, rfl⟩
                    rw [hq] at hcellq hle5 hC5 hr
                    replace hr := Option.bind_eq_some_iff.1 hr
                    obtain ⟨y, hy, hr⟩ := hr
                    replace hr := Option.bind_eq_some_iff.1 hr
                    obtain ⟨s, hks, hr⟩ := hr
                    have hss : s.size ≤ 1000 ∧ 0 ≤ (C.num s).getD 0 ∧ (C.num s).getD 0 < (seen3.length : Int) := by
                      by_cases e : s.size ≤ 1000 ∧ 0 ≤ (C.num s).getD 0 ∧ (C.num s).getD 0 < (seen3.length : Int)
                      · exact e
                      · rw [if_neg e] at hr; cases hr
                    rw [if_pos hss] at hr
                    obtain ⟨nn, hnn⟩ : ∃ nn : Nat, (C.num s).getD 0 = (nn : Int) := ⟨((C.num s).getD 0).toNat, by omega⟩
                    have hnl : nn < C.least.length := by have := HT3.out.2.1; omega
                    rw [hnn, Int.toNat_natCast] at hr
                    have HY := Aside0.mk hy
                    have HKS := Aside0.mk hks
                    have HSS := Aside0.mk hss.1
                    have HNN := Aside0.mk hnn
                    have HNL := Aside0.mk hnl
                    have HR := Aside0.mk hr
                    have HLQ := Aside0.mk hle5
                    have HCQ := Aside0.mk (Kd.C_below hC5 (below_step HBC.out HD3.out.bel))
                    have HCP := Aside0.mk (Kd.C_below HC4.out HD3.out.bel)
                    have hcq := cell_keep hcellq (below_step HBC.out HD3.out.bel)
                    have hco := cell_keep HCO.out HD3.out.bel
                    have HX := Aside0.mk ((HD3.out.bel.block _ (blk_lt HXC.out)).trans HXC.out)
                    have HXLT := Aside0.mk (blk_lt HX.out)
                    obtain ⟨f0, f1, f2, f3⟩ := cos_cells HX.out
                    have hoc : wr.cell? ⟨g3, j, none⟩ = some (.int .i64 (on : Int)) := by
                      obtain ⟨cs, hc, hM, hcc, hf⟩ := Kd.R_elem HD3.out.ro 0 (j : Int) (by omega) (by have := HT3.out.2.2.1; omega)
                      rw [Int.toNat_natCast] at hM hcc
                      have hM : cs = [.int .i64 (O3.getD j 0)] := hM
                      rw [HT3.out.2.2.2.1] at hM
                      subst hM
                      have h1 := hcc 0 _ rfl
                      rw [show j * (Kd.int .i64).sz + 0 = j from Nat.mul_one j] at h1
                      exact h1
                    have hol := World.block_lt_of_cell? wr _ hoc
                    have hcl := World.block_lt_of_cell? wr _ hco
                    have g1 : (j < O3.length) = True := eq_true HT3.out.2.2.1
                    have g2 : ((j : Int) < (O3.length : Int)) = True := eq_true (by have := HT3.out.2.2.1; omega)
                    have g3' : (0 ≤ (j : Int)) = True := eq_true (by omega)
                    have g4 : (on < C.least.length) = True := eq_true HONL.out
                    have g5 : ((on : Int) < (C.least.length : Int)) = True := eq_true (by have := HONL.out; omega)
                    have g6 : (0 ≤ (on : Int)) = True := eq_true (by omega)
                    clear hy hks hss hnn hnl hr hle5 hC5 e5 hq hcellq htl
                    go_wp2
                    go_region_law (first
                      | (go_simp; go_at_call 54; (refine (coset_mul.calls k a4 ca4 pj a5 ca5 q y _ (Kd.C_below HCP.out bel0) HLE4.out (Kd.C_below HCQ.out bel0) HLQ.out HY.out).mono ?_); rintro e w7 ⟨v7, rfl, hr7, hb7⟩; have HBR7 := Aside0.mk (below_step (w := wr) bel0 hb7); obtain ⟨A7, c7, e7⟩ := Kd.R_slice hr7; subst e7; have HR7 := Aside0.mk hr7; obtain ⟨k0, k1, k2, k3⟩ := cos_cells ((HBR7.out.block _ HXLT.out).trans HX.out); have hxl7 := Nat.lt_of_lt_of_le HXLT.out HBR7.out.size; clear hr7 hb7)
                      | (go_simp; go_at_call 53; (refine (of_any k C y s (HCVC.out.below (below_step HD3.out.bel (below_step HBR7.out bel0))) (Kd.C_below (Kd.R_reads' HR7.out).2.2 bel0) (Kd.R_reads' HR7.out).2.1 HKS.out HSS.out).mono ?_); rintro e w8 ⟨rfl, hb8⟩; have HBR8 := Aside0.mk (below_step HBR7.out (below_step (w := w7) bel0 hb8)); rw [HNN.out]; obtain ⟨mm0, mm1, mm2, mm3⟩ := cos_cells ((HBR8.out.block _ HXLT.out).trans HX.out); clear hb8))
                    all_goals
                      have HD8 := Aside0.mk (HD3.out.below HBR8.out)
                      obtain ⟨sb, hsb⟩ : ∃ sb, seen3.getD nn false = sb := ⟨_, rfl⟩
                      have hnl := HNL.out
                      have hseen : w8.cell? ⟨X + 1, nn, none⟩ = some (.bool sb) := by
                        obtain ⟨cs, hc, hM, hcc, hf⟩ := Kd.R_elem HD8.out.rs false (nn : Int) (by omega) (by omega)
                        rw [Int.toNat_natCast] at hM hcc
                        have hM : cs = [.bool (seen3.getD nn false)] := hM
                        subst hM
                        have h1 := hcc 0 _ rfl
                        rw [show nn * Kd.bool.sz + 0 = nn from Nat.mul_one nn, hsb] at h1
                        exact h1
                      have hfro : w8.frozen? ⟨X + 1, nn, none⟩ = false := by
                        obtain ⟨cs, hc, hM, hcc, hf⟩ := Kd.R_elem HD8.out.rs false (nn : Int) (by omega) (by omega)
                        rw [Int.toNat_natCast] at hf
                        have h2 := hf 0
                        rw [show nn * Kd.bool.sz + 0 = nn from Nat.mul_one nn] at h2
                        exact h2
                      have n1 : (nn < C.least.length) = True := eq_true hnl
                      have n2 : ((nn : Int) < (C.least.length : Int)) = True := eq_true (by omega)
                      have n3 : (0 ≤ (nn : Int)) = True := eq_true (by omega)
                      have hr := HR.out
                      rw [hsb] at hr
                      clear hsb
                      cases sb with
                      | true =>
                        rw [if_pos rfl] at hr
                        have HR2 := Aside0.mk hr
                        clear hr hnl
                        go_wp2
                        go_roundg m3
                        case measure => exact Nat.lt_succ_self _
                        case rel => exact ⟨t + 1, ρ3, seen3, O3, _, (by first | (rw [wt]; done) | rfl), rfl, HD8, HR2, ⟨by have := HT3.out; omega, HT3.out.2.1, HT3.out.2.2.1, HT3.out.2.2.2.1, by have := HT3.out; omega⟩⟩
                      | false =>
                        rw [if_neg (by decide)] at hr
                        have HR2 := Aside0.mk hr
                        have HD9 := Aside0.mk (HD8.out.see nn hnl)
                        have hbs9 : Aside0 (wc.heap.size ≤ (w8.setCell ⟨X + 1, nn, none⟩ (.bool true)).heap.size) := ⟨HD9.out.bel.size⟩
                        have HOL3 : Aside0 (O3.length ≤ 1100000) := ⟨by have := HT3.out; have := HF.out.2; omega⟩
                        clear hr hnl
                        go_wp2_with ((with_reducible refine gate_builtin (b := .append) (xs := #[.tmp 86, .tmp 88]) rfl ?_); at_builtin; refine Kd.R_append (Kd.int .i64) (w0 := w8.setCell ⟨X + 1, nn, none⟩ (.bool true)) wc.heap.size rfl (.tmp 86) (.tmp 88) 42 3 (.int .i64 0) 8 rfl Try.underlying42 int_infoC rfl (by decide) (by omega) (.slice (some ⟨g3, 0, none⟩) O3.length cap3) O3 (nn : Int) [.int .i64 (nn : Int)] (fun b => ρ3 b = 4 ∨ (w8.setCell ⟨X + 1, nn, none⟩ (.bool true)).heap.size ≤ b) (fun _ => False) rfl ?aX ?aP (fun _ hk => hk.elim) ?aF ?aO ?aB ?aS ?aL ?_; (case aX => show Value.slice (some ⟨w8.heap.size, 0, none⟩) 1 1 = _; simp [World.setCell]); (case aP => rfl); (case aF => exact fun _ h => .inr h); (case aO => exact Kd.R_mono HD9.out.ro (fun _ h => .inl h)); (case aB => exact ⟨rfl, rfl, rfl, Nat.le_refl _, fun _ _ => rfl⟩); (case aS => exact hbs9.out); (case aL => have := HOL3.out; omega); intro v10 w10 ho hb hg hat; obtain ⟨Ao1, co1, eo1⟩ := Kd.R_slice ho; have hd10 := HD9.out.orbit (row := (Value.slice (some ⟨g3, 0, none⟩) O3.length cap3).ownBlock) (fun b e => ⟨HD9.out.ro.1 b e, Kd.R_base HD9.out.ro b e⟩) ho hg; have el : (O3 ++ [(nn : Int)]).length = O3.length + 1 := (by simp); subst eo1; rw [el] at hd10 ⊢; have HD10 := Aside0.mk hd10; clear ho hb hg hat hd10 el)
                        go_roundg m3
                        case measure => exact Nat.lt_succ_self _
                        case rel => exact ⟨t + 1, _, seen3.set nn true, O3 ++ [(nn : Int)], _, (by first | (rw [wt]; done) | rfl), rfl, HD10, HR2, ⟨by have := HT3.out; omega, by rw [List.length_set]; exact HT3.out.2.1, by rw [List.length_append]; have := HT3.out.2.2.1; omega, by rw [List.getD_eq_getElem?_getD, List.getElem?_append_left HT3.out.2.2.1, ← List.getD_eq_getElem?_getD]; exact HT3.out.2.2.2.1, by rw [List.length_append, List.length_singleton]; have := HT3.out; omega⟩⟩
              · rw [if_neg hjo] at hu1
                obtain ⟨rfl, rfl⟩ : seen2 = u1 ∧ O2 = u2 := ⟨congrArg Prod.fst (Option.some.inj hu1), congrArg Prod.snd (Option.some.inj hu1)⟩
                obtain ⟨Av, cv, ev⟩ := Kd.R_slice HD2.out.ro
                subst ev
                have q1 : (j < O2.length) = False := eq_false hjo
                have q2 : ((j : Int) < (O2.length : Int)) = False := eq_false (by omega)
                have HGA : Aside0 (PermAt wr (.slice a3 p.length ca3) p) := ⟨⟨a3, ca3, rfl, HLE3.out, Kd.C_below HC3.out HD2.out.bel⟩⟩
                have HX := Aside0.mk ((HD2.out.bel.block _ (blk_lt HXC.out)).trans HXC.out)
                have HLZ : Aside0 (L.length ≤ 6000 ∧ Z.length ≤ 6000) := ⟨by have := HI.out; have := fitL_len HF.out.1; omega⟩
                have HO2 : Aside0 (seen2.length = C.least.length) := HSL
                clear hu1
                go_wp2_with (first
                  | ((with_reducible refine gate_builtin (b := .append) (xs := #[.tmp 96, .tmp 103]) rfl ?_); at_builtin; refine Kd.R_append (Kd.int .i64) (w0 := w8) wc.heap.size rfl (.tmp 96) (.tmp 103) 42 3 (.int .i64 0) 8 rfl Try.underlying42 int_infoC rfl (by decide) (by omega) vz Z (wrap64 ((O2.length : Int) * (C.own.length : Int))) [.int .i64 (wrap64 ((O2.length : Int) * (C.own.length : Int)))] (fun b => newRole (newRole ρ2 wr.heap.size w7.heap.size 2) w7.heap.size w8.heap.size 2 b = 3 ∨ w8.heap.size ≤ b) (fun _ => False) rfl ?aX ?aP (fun _ hk => hk.elim) ?aF ?aO ?aB ?aS ?aL ?_; (case aX => rfl); (case aP => rfl); (case aF => exact fun _ h => .inr h); (case aO => exact Kd.R_mono HD8.out.rz (fun _ h => .inl h)); (case aB => exact ⟨rfl, rfl, rfl, Nat.le_refl _, fun _ _ => rfl⟩); (case aS => exact HD8.out.bel.size); (case aL => have := HLZ.out; omega); intro v9 w9 ho hb hg hat; have HD9 := Aside0.mk (HD8.out.sizes ho hg); clear ho hb hg hat)
                  | ((with_reducible refine gate_builtin (b := .append) (xs := #[.tmp 91, .tmp 94]) rfl ?_); at_builtin; refine Kd.S_append (Kd.slice 3 (Kd.int .i64)) (w0 := w7) wc.heap.size rfl (.tmp 91) (.tmp 94) 22 43 (.slice none 0 0) 24 rfl Try.underlying22 perm_info rfl (by decide) (by omega) vl L p [.slice A7 p.length c7] (fun b => newRole ρ2 wr.heap.size w7.heap.size 2 b = 2 ∨ w7.heap.size ≤ b) (fun b => some b = (Value.slice A7 p.length c7).ownBlock) ?hs ?hx ?hp ?hokp ?hf ?hO ?hB ?hb ?hl ?_; (case hs => rfl); (case hx => rfl); (case hp => exact ⟨_, rfl, Kd.R_tight rfl (Kd.R_lower HR7.out HD2.out.bel.size)⟩); (case hokp => exact fun b hb => HN7.out b hb); (case hf => exact fun b hb => .inr hb); (case hO => exact HS7.out); (case hB => exact ⟨rfl, rfl, rfl, Nat.le_refl _, fun _ _ => rfl⟩); (case hb => exact HD7.out.bel.size); (case hl => have := HLZ.out; omega); intro v8 w8 ho hb hg hat; have HD8 := Aside0.mk (HD7.out.leasts ho hg); have HX8 := Aside0.mk ((HD8.out.bel.block _ (blk_lt HXC.out)).trans HXC.out); obtain ⟨ff0, ff1, ff2, ff3⟩ := cos_cells HX8.out; clear ho hb hg hat)
                  | (go_at_call 61; (refine (clone_perm HGA.out HP1.out).mono ?_); rintro e w7 ⟨v7, rfl, hr7, hb7⟩; obtain ⟨A7, c7, e7⟩ := Kd.R_slice hr7; subst e7; have HR7 := Aside0.mk hr7; have HD7 := Aside0.mk (HD2.out.give hb7 2); have HN7 : Aside0 (∀ b, some b = (Value.slice A7 p.length c7).ownBlock → (newRole ρ2 wr.heap.size w7.heap.size 2 b = 2 ∨ w7.heap.size ≤ b) ∧ some b ≠ vl.ownBlock) := ⟨fun b hb => ⟨.inl (newRole_new (Kd.R_base hr7 b hb.symm) (Kd.R_lt hr7 b hb.symm)), fun e => by have h1 := Kd.R_base hr7 b hb.symm; have h2 := Kd.S_lt HD2.out.rl b e.symm; omega⟩⟩; have HS7 := Aside0.mk (Kd.S_mono (ok' := fun b => (newRole ρ2 wr.heap.size w7.heap.size 2 b = 2 ∨ w7.heap.size ≤ b) ∧ ¬ some b = (Value.slice A7 p.length c7).ownBlock) (Kd.S_below (Kd.S_bound HD2.out.rl) hb7) (fun b hb => ⟨.inl ((newRole_old hb.2.2.1).trans hb.1), fun e => by have h1 := Kd.R_base hr7 b e.symm; have h2 := hb.2.2.1; omega⟩)); clear hr7 hb7))
                go_roundg m
                case measure => exact Nat.lt_succ_self _
                case rel => exact ⟨i + 1, _, seen2, L ++ [p], Z ++ [wrap64 ((O2.length : Int) * (C.own.length : Int))], O2, _, _, _, (by first | (rw [wi]; done) | rfl), rfl, rfl, HD9, HA, ⟨by have := HI.out; omega, HO2.out, by rw [List.length_append, List.length_singleton]; have := HI.out; omega, by rw [List.length_append, List.length_append, HI.out.2.2.2]; rfl⟩⟩
  · rw [if_neg e0] at h
    obtain ⟨rfl, rfl, rfl⟩ : [] = r1 ∧ [] = r2 ∧ e1 = r3 := ⟨congrArg Prod.fst (Option.some.inj h), congrArg (fun x => x.2.1) (Option.some.inj h), congrArg (fun x => x.2.2) (Option.some.inj h)⟩
    have q1 : (e1 == 0) = false := beq_eq_false_iff_ne.mpr e0
    have q2 : (e1 != 0) = true := bne_iff_ne.mpr e0
    clear h e0
    go_wp2_with (go_at_call 49; (refine (check_any k (a0, l0) [(a1, l1), (a2, l2)] [] e1 (rows := [(a1, (A1, l1.length, c1)), (a2, (A2, l2.length, c2))]) ⟨rfl, HC0.out, Kd.C_below HG0.out bel0⟩ (two_grp HST.out.2.2.2 HC1.out (Kd.C_below HG1.out bel0) HC2.out (Kd.C_below HG2.out bel0)) (Or.inr ⟨_, rfl⟩) (Nat.le_refl _) (by simp) (by simp) ⟨rfl, by simp, fun h => absurd h (by simp)⟩ (Nat.zero_le _) HK.out).mono ?_); rintro e w5 ⟨rfl, hb5⟩; have hx0 : w5.cell? ⟨w.heap.size, 0, none⟩ = some (.int .i64 a0) := blk_cell ((hb5.block _ (blk_lt HST.out.1)).trans HST.out.1) 0; have hx1 : w5.cell? ⟨w.heap.size, 1, none⟩ = some (.slice A0 l0.length c0) := blk_cell ((hb5.block _ (blk_lt HST.out.1)).trans HST.out.1) 1; have hy0 : w5.cell? ⟨w.heap.size + 1, 0, none⟩ = some (.int .i64 a1) := blk_cell ((hb5.block _ (blk_lt HST.out.2.1)).trans HST.out.2.1) 0; have hy1 : w5.cell? ⟨w.heap.size + 1, 1, none⟩ = some (.slice A1 l1.length c1) := blk_cell ((hb5.block _ (blk_lt HST.out.2.1)).trans HST.out.2.1) 1; have HZ5 := Aside0.mk (show w5.cell? ⟨w.heap.size + 1 + 1, 1, none⟩ = some (.slice A2 l2.length c2) from blk_cell ((hb5.block _ (blk_lt HST.out.2.2.1)).trans HST.out.2.2.1) 1); have hlt := Nat.lt_of_lt_of_le (blk_lt HST.out.2.1) hb5.size; have hl0 : w.heap.size < w5.heap.size := (by omega); have HB5 : Aside0 (Below w.heap.size w w5) := ⟨below_step (below_alloc (below_alloc (below_alloc (below_alloc (Below.refl _ _) _) _) _) _) hb5⟩; clear hb5)
    go_ret3
    exact ⟨_, _, rfl, Kd.S_nil _ _ _ _ _, Kd.R_nil _ _ _ _ _, HB5.out⟩
end Go.Proofs.Ytaaaljifclecnaa.Bs
end
section
/- coset.DoubleCosets, in the print's form. -/
namespace Go.Proofs.Ytaaaljifclecnaa.Bs
open Go.RowKit Go.Proofs.YtaaaljifclecnaaW.PrintWords Go.Proofs.YtaaaljifclecnaaW.PrintLast Go.Proofs.YtaaaljifclecnaaW.PrintMore Go.Proofs.Ytaaaljifclecnaa.Plain
abbrev coset_DoubleCosets.f := doubV
theorem coset_DoubleCosets.mono : ∀ a0 l0 a1 l1 a2 l2 k, LeO (coset_DoubleCosets.f k a0 l0 a1 l1 a2 l2) (coset_DoubleCosets.f (k + 1) a0 l0 a1 l1 a2 l2) := fun a0 l0 a1 l1 a2 l2 k => doubV_mono k a0 l0 a1 l1 a2 l2
abbrev coset_DoubleCosets.calls := @doub_any
end Go.Proofs.Ytaaaljifclecnaa.Bs
end
section
/- What the reference's double cosets come to. -/
namespace Go.Proofs.Ytaaaljifclecnaa.QCo
open Go.RowKit Go.Proofs.YtaaaljifclecnaaW.PrintWords Go.Proofs.Ytaaaljifclecnaa.Plain Go.Proofs.Ytaaaljifclecnaa.Pms Go.Proofs.Ytaaaljifclecnaa.QRf Go.Proofs.Ytaaaljifclecnaa.QCl
open Go.Proofs.Ytaaaljifclecnaa.Bs (Lt Lt.irrefl Lt.trans Lt.total sorted_eq sorted_nodup dbIn dbOut seenIn ddOut galoisref27_Double.f galoisref27_DoubleCosets.f)
open Go.Proofs.Ytaaaljifclecnaa.PRf (galoisref22_Mul.f galoisref23_Has.f galoisref23_Place.f)
variable {n : Nat}
theorem insL (A : List (Pm n)) (y : Pm n) : (A.map Pm.l).take (place A y) ++ y.l :: (A.map Pm.l).drop (place A y) = (ins A y).map Pm.l := by
  unfold ins
  rw [List.map_append, List.map_cons, List.map_take, List.map_drop]
theorem mem_ins (A : List (Pm n)) (y z : Pm n) : z ∈ ins A y ↔ z = y ∨ z ∈ A := by rw [(ins_perm A y).mem_iff, List.mem_cons]
theorem dbInP (hn : n ≤ 20) (x : Pm n) (B : List (Pm n)) (hB : B.length ≤ 240) : ∀ (K A : List (Pm n)), A.Pairwise Lt → (∀ a ∈ A, a ∈ B) → (∀ z ∈ K, x * z ∈ B) → ∃ A' : List (Pm n), A'.Pairwise Lt ∧ (∀ y, y ∈ A' ↔ y ∈ A ∨ ∃ z ∈ K, y = x * z) ∧ Ev (fun k => dbIn k x.l (K.map Pm.l) (A.map Pm.l)) (A'.map Pm.l)
  | [], A, hA, _, _ => ⟨A, hA, fun y => by simp, Ev.now _⟩
  | z :: K, A, hA, hAB, hK => by
    have hAl : A.length ≤ 240 := Nat.le_trans ((sorted_nodup hA).length_le_of_subset hAB) hB
    have hzB := hK z (List.mem_cons_self ..)
    have hK2 : ∀ z ∈ K, x * z ∈ B := fun y hy => hK y (List.mem_cons_of_mem _ hy)
    by_cases c : x * z ∈ A
    · obtain ⟨A', h1, h2, h3⟩ := dbInP hn x B hB K A hA hAB hK2
      refine ⟨A', h1, fun y => ?_, ?_⟩
      · rw [h2]
        constructor
        · rintro (h | ⟨u, hu, h⟩)
          · exact .inl h
          · exact .inr ⟨u, List.mem_cons_of_mem _ hu, h⟩
        · rintro (h | ⟨u, hu, h⟩)
          · exact .inl h
          · rcases List.mem_cons.1 hu with e | e
            · subst e; rw [h]; exact .inl c
            · exact .inr ⟨u, e, h⟩
      · refine Ev.congr (f := fun k => (galoisref22_Mul.f k x.l z.l).bind fun y => (galoisref23_Has.f k (A.map Pm.l) y).bind fun b => if b = true then dbIn k x.l (K.map Pm.l) (A.map Pm.l) else (galoisref23_Place.f k (A.map Pm.l) y).bind fun a => if 0 ≤ a ∧ a ≤ ((A.map Pm.l).length : Int) ∧ (A.map Pm.l).length < 1000 then dbIn k x.l (K.map Pm.l) ((A.map Pm.l).take a.toNat ++ y :: (A.map Pm.l).drop a.toNat) else none) (fun k => rfl) ?_
        refine Ev.bind (mulP hn x z) (Ev.bind (hasP hn hA (by omega) _) ?_)
        simp only [decide_eq_true c, if_true]
        exact h3
    · obtain ⟨A', h1, h2, h3⟩ := dbInP hn x B hB K (ins A (x * z)) (ins_sorted hA c) (fun a ha => ((mem_ins A _ a).1 ha).elim (fun e => e ▸ hzB) (hAB a)) hK2
      refine ⟨A', h1, fun y => ?_, ?_⟩
      · rw [h2, mem_ins]
        constructor
        · rintro ((h | h) | ⟨u, hu, h⟩)
          · exact .inr ⟨z, List.mem_cons_self .., h⟩
          · exact .inl h
          · exact .inr ⟨u, List.mem_cons_of_mem _ hu, h⟩
        · rintro (h | ⟨u, hu, h⟩)
          · exact .inl (.inr h)
          · rcases List.mem_cons.1 hu with e | e
            · subst e; exact .inl (.inl h)
            · exact .inr ⟨u, e, h⟩
      · refine Ev.congr (f := fun k => (galoisref22_Mul.f k x.l z.l).bind fun y => (galoisref23_Has.f k (A.map Pm.l) y).bind fun b => if b = true then dbIn k x.l (K.map Pm.l) (A.map Pm.l) else (galoisref23_Place.f k (A.map Pm.l) y).bind fun a => if 0 ≤ a ∧ a ≤ ((A.map Pm.l).length : Int) ∧ (A.map Pm.l).length < 1000 then dbIn k x.l (K.map Pm.l) ((A.map Pm.l).take a.toNat ++ y :: (A.map Pm.l).drop a.toNat) else none) (fun k => rfl) ?_
        refine Ev.bind (mulP hn x z) (Ev.bind (hasP hn hA (by omega) _) ?_)
        simp only [decide_eq_false c, Bool.false_eq_true, if_false]
        refine Ev.bind (placeP hn hA (by omega) (x * z)) ?_
        have hp := place_le A (x * z)
        simp only [List.length_map, if_pos (show 0 ≤ ((place A (x * z) : Nat) : Int) ∧ ((place A (x * z) : Nat) : Int) ≤ (A.length : Int) ∧ A.length < 1000 by omega), Int.toNat_natCast, insL]
        exact h3
theorem dbOutP (hn : n ≤ 20) (p : Pm n) (K B : List (Pm n)) (hB : B.length ≤ 240) : ∀ (F A : List (Pm n)), A.Pairwise Lt → (∀ a ∈ A, a ∈ B) → (∀ x ∈ F, ∀ z ∈ K, x * p * z ∈ B) → ∃ A' : List (Pm n), A'.Pairwise Lt ∧ (∀ y, y ∈ A' ↔ y ∈ A ∨ ∃ x ∈ F, ∃ z ∈ K, y = x * p * z) ∧ Ev (fun k => dbOut k p.l (K.map Pm.l) (F.map Pm.l) (A.map Pm.l)) (A'.map Pm.l)
  | [], A, hA, _, _ => ⟨A, hA, fun y => by simp, Ev.now _⟩
  | x :: F, A, hA, hAB, hF => by
    obtain ⟨A1, h1, h2, h3⟩ := dbInP hn (x * p) B hB K A hA hAB (hF x (List.mem_cons_self ..))
    obtain ⟨A2, g1, g2, g3⟩ := dbOutP hn p K B hB F A1 h1 (fun a ha => ((h2 a).1 ha).elim (hAB a) (fun ⟨z, hz, e⟩ => e ▸ hF x (List.mem_cons_self ..) z hz)) (fun y hy => hF y (List.mem_cons_of_mem _ hy))
    refine ⟨A2, g1, fun y => ?_, ?_⟩
    · rw [g2, h2]
      constructor
      · rintro ((h | ⟨z, hz, h⟩) | ⟨u, hu, z, hz, h⟩)
        · exact .inl h
        · exact .inr ⟨x, List.mem_cons_self .., z, hz, h⟩
        · exact .inr ⟨u, List.mem_cons_of_mem _ hu, z, hz, h⟩
      · rintro (h | ⟨u, hu, z, hz, h⟩)
        · exact .inl (.inl h)
        · rcases List.mem_cons.1 hu with e | e
          · subst e; exact .inl (.inr ⟨z, hz, h⟩)
          · exact .inr ⟨u, e, z, hz, h⟩
    · refine Ev.congr (f := fun k => (galoisref22_Mul.f k x.l p.l).bind fun y => (dbIn k y (K.map Pm.l) (A.map Pm.l)).bind fun o => dbOut k p.l (K.map Pm.l) (F.map Pm.l) o) (fun k => rfl) ?_
      exact Ev.bind (mulP hn x p) (Ev.bind h3 g3)
theorem doubleP (hn : n ≤ 20) {E F K : List (Pm n)} (hE : SubL E) (hF : SubL F) (hK : SubL K) (hs : ∀ x ∈ F, x ∈ E) (hk : ∀ x ∈ K, x ∈ E) (hl : E.length ≤ 240) {p : Pm n} (hp : p ∈ E) : Ev (fun k => galoisref27_Double.f k (F.map Pm.l) (K.map Pm.l) p.l) ((dcl F K E p).map Pm.l) := by
  obtain ⟨A, h1, h2, h3⟩ := dbOutP hn p K E hl F [] List.Pairwise.nil (fun a ha => by cases ha) (fun x hx z hz => hE.mul _ (hE.mul _ (hs _ hx) _ hp) _ (hk _ hz))
  have e : A = dcl F K E p := sorted_eq h1 (hE.srt.sublist List.filter_sublist) fun y => by
    rw [h2]
    unfold dcl
    rw [List.mem_filter, decide_eq_true_iff]
    constructor
    · rintro (h | h)
      · cases h
      · exact ⟨Dc.mem hE hs hk hp h, h⟩
    · exact fun h => .inr h.2
  rw [← e]; exact h3
theorem seenInP (hn : n ≤ 20) (B : List (Pm n)) (hB : B.length ≤ 240) : ∀ (L A : List (Pm n)), A.Pairwise Lt → L.Nodup → (∀ a ∈ A, a ∈ B) → (∀ y ∈ L, y ∈ B ∧ y ∉ A) → ∃ A' : List (Pm n), A'.Pairwise Lt ∧ (∀ y, y ∈ A' ↔ y ∈ A ∨ y ∈ L) ∧ Ev (fun k => seenIn k (L.map Pm.l) (A.map Pm.l)) (A'.map Pm.l)
  | [], A, hA, _, _, _ => ⟨A, hA, fun y => by simp, Ev.now _⟩
  | y :: L, A, hA, hL, hAB, hy => by
    obtain ⟨hy1, hL2⟩ := List.nodup_cons.1 hL
    obtain ⟨hyB, hyA⟩ := hy y (List.mem_cons_self ..)
    have hAl : A.length ≤ 240 := Nat.le_trans ((sorted_nodup hA).length_le_of_subset hAB) hB
    obtain ⟨A', h1, h2, h3⟩ := seenInP hn B hB L (ins A y) (ins_sorted hA hyA) hL2 (fun a ha => ((mem_ins A _ a).1 ha).elim (fun e => e ▸ hyB) (hAB a)) (fun z hz => ⟨(hy z (List.mem_cons_of_mem _ hz)).1, fun hm => ((mem_ins A _ z).1 hm).elim (fun e => hy1 (e ▸ hz)) (hy z (List.mem_cons_of_mem _ hz)).2⟩)
    refine ⟨A', h1, fun z => ?_, ?_⟩
    · rw [h2, mem_ins, List.mem_cons]
      constructor
      · rintro ((h | h) | h)
        · exact .inr (.inl h)
        · exact .inl h
        · exact .inr (.inr h)
      · rintro (h | h | h)
        · exact .inl (.inr h)
        · exact .inl (.inl h)
        · exact .inr h
    · refine Ev.congr (f := fun k => (galoisref23_Place.f k (A.map Pm.l) y.l).bind fun a => if 0 ≤ a ∧ a ≤ ((A.map Pm.l).length : Int) ∧ (A.map Pm.l).length < 1000 then seenIn k (L.map Pm.l) ((A.map Pm.l).take a.toNat ++ y.l :: (A.map Pm.l).drop a.toNat) else none) (fun k => rfl) ?_
      refine Ev.bind (placeP hn hA (by omega) y) ?_
      have hp := place_le A y
      simp only [List.length_map, if_pos (show 0 ≤ ((place A y : Nat) : Int) ∧ ((place A y : Nat) : Int) ≤ (A.length : Int) ∧ A.length < 1000 by omega), Int.toNat_natCast, insL]
      exact h3
theorem ddP (hn : n ≤ 20) {E F K : List (Pm n)} (hE : SubL E) (hF : SubL F) (hK : SubL K) (hs : ∀ x ∈ F, x ∈ E) (hk : ∀ x ∈ K, x ∈ E) (hl : E.length ≤ 240) : ∀ (d i : Nat) (A : List (Pm n)), i + d = E.length → A.Pairwise Lt → (∀ y, y ∈ A ↔ ∃ r ∈ (E.take i).filter (isD F K E), Dc F K r y) →
    Ev (fun k => ddOut k (F.map Pm.l) (K.map Pm.l) ((E.drop i).map Pm.l) (A.map Pm.l) (((E.take i).filter (isD F K E)).map Pm.l) (((E.take i).filter (isD F K E)).map fun p => (((dcl F K E p).length : Nat) : Int))) ((dreps F K E).map Pm.l, (dreps F K E).map fun p => (((dcl F K E p).length : Nat) : Int)) := by
  intro d
  induction d with
  | zero =>
    intro i A hi hA hm
    rw [List.drop_eq_nil_of_le (by omega), List.take_of_length_le (by omega)]
    exact Ev.now _
  | succ d ih =>
    intro i A hi hA hm
    have hil : i < E.length := by omega
    obtain ⟨p, hp⟩ : ∃ p, E[i] = p := ⟨_, rfl⟩
    have hpE : p ∈ E := hp ▸ List.getElem_mem hil
    have et : E.take (i + 1) = E.take i ++ [p] := by rw [← hp]; exact (List.take_append_getElem hil).symm
    have hAE : ∀ a ∈ A, a ∈ E := fun a ha => by
      obtain ⟨r, hr, hd⟩ := (hm a).1 ha
      exact Dc.mem hE hs hk (List.mem_of_mem_take (List.mem_filter.1 hr).1) hd
    have hAl : A.length ≤ 240 := Nat.le_trans ((sorted_nodup hA).length_le_of_subset hAE) hl
    have hless : ∀ r ∈ E.take i, Lt r p := fun r hr => by
      obtain ⟨a, ha, rfl⟩ := List.mem_take_iff_getElem.1 hr
      have h3 := List.pairwise_iff_getElem.1 hE.srt a i (by omega) hil (by omega)
      rwa [hp] at h3
    have hbefore : ∀ r ∈ E, Lt r p → r ∈ E.take i := fun r hr hlt => by
      obtain ⟨a, ha, rfl⟩ := List.getElem_of_mem hr
      rcases Nat.lt_or_ge a i with h1 | h1
      · exact List.mem_take_iff_getElem.2 ⟨a, by omega, rfl⟩
      · rcases Nat.lt_or_ge i a with h2 | h2
        · have h3 := List.pairwise_iff_getElem.1 hE.srt i a hil ha h2
          rw [hp] at h3
          exact absurd hlt (Lt.asymm h3)
        · have e : i = a := by omega
          subst e
          rw [hp] at hlt
          exact absurd hlt (Lt.irrefl _)
    have hseen : p ∈ A ↔ isD F K E p ≠ true := by
      rw [hm]
      constructor
      · rintro ⟨r, hr, hd⟩ hD
        exact isD_iff.1 hD r (List.mem_of_mem_take (List.mem_filter.1 hr).1) (hd.symm hF hK) (hless r (List.mem_filter.1 hr).1)
      · intro hD
        obtain ⟨r, hr, hd⟩ := Pms.exists_least hF hK hE hpE
        refine ⟨r, List.mem_filter.2 ⟨?_, (List.mem_filter.1 hr).2⟩, hd⟩
        rcases Lt.total r p with h1 | h1 | h1
        · exact hbefore r (List.mem_filter.1 hr).1 h1
        · rw [← h1] at hD; exact absurd (List.mem_filter.1 hr).2 hD
        · exact absurd h1 (isD_iff.1 (List.mem_filter.1 hr).2 p hpE hd)
    rw [List.drop_eq_getElem_cons hil, List.map_cons, hp]
    have hstep : ∀ res, Ev (fun k => (galoisref23_Has.f k (A.map Pm.l) p.l).bind fun b => if b = true then ddOut k (F.map Pm.l) (K.map Pm.l) ((E.drop (i + 1)).map Pm.l) (A.map Pm.l) (((E.take i).filter (isD F K E)).map Pm.l) (((E.take i).filter (isD F K E)).map fun p => (((dcl F K E p).length : Nat) : Int)) else (galoisref27_Double.f k (F.map Pm.l) (K.map Pm.l) p.l).bind fun l => (seenIn k l (A.map Pm.l)).bind fun s' => if (((E.take i).filter (isD F K E)).map Pm.l).length < 1000 ∧ (((E.take i).filter (isD F K E)).map fun p => (((dcl F K E p).length : Nat) : Int)).length < 1000 then ddOut k (F.map Pm.l) (K.map Pm.l) ((E.drop (i + 1)).map Pm.l) s' (((E.take i).filter (isD F K E)).map Pm.l ++ [p.l]) (((E.take i).filter (isD F K E)).map (fun p => (((dcl F K E p).length : Nat) : Int)) ++ [(l.length : Int)]) else none) res → Ev (fun k => ddOut k (F.map Pm.l) (K.map Pm.l) (p.l :: (E.drop (i + 1)).map Pm.l) (A.map Pm.l) (((E.take i).filter (isD F K E)).map Pm.l) (((E.take i).filter (isD F K E)).map fun p => (((dcl F K E p).length : Nat) : Int))) res := fun res h => Ev.congr (fun k => rfl) h
    refine hstep _ (Ev.bind (hasP hn hA (by omega) p) ?_)
    by_cases hD : isD F K E p = true
    · have hpA : p ∉ A := fun h => hseen.1 h hD
      simp only [decide_eq_false hpA, Bool.false_eq_true, if_false]
      refine Ev.bind (doubleP hn hE hF hK hs hk hl hpE) ?_
      obtain ⟨A', g1, g2, g3⟩ := seenInP hn E hl (dcl F K E p) A hA (hE.nodup.filter _) hAE (fun y hy => ⟨(List.mem_filter.1 hy).1, fun hyA => by
        obtain ⟨r, hr, hd⟩ := (hm y).1 hyA
        have hpy := of_decide_eq_true (List.mem_filter.1 hy).2
        exact hpA ((hm p).2 ⟨r, hr, hd.trans hF hK (hpy.symm hF hK)⟩)⟩)
      refine Ev.bind g3 ?_
      have hlen : ((E.take i).filter (isD F K E)).length ≤ 240 := by
        have h1 := List.length_filter_le (isD F K E) (E.take i)
        rw [List.length_take] at h1; omega
      simp only [List.length_map, if_pos (show ((E.take i).filter (isD F K E)).length < 1000 ∧ ((E.take i).filter (isD F K E)).length < 1000 by omega)]
      have hnext := ih (i + 1) A' (by omega) g1 (fun y => by
        rw [g2, hm, et, List.filter_append, List.filter_cons, if_pos hD, List.filter_nil]
        constructor
        · rintro (⟨r, hr, hd⟩ | hy)
          · exact ⟨r, List.mem_append_left _ hr, hd⟩
          · exact ⟨p, List.mem_append_right _ (List.mem_singleton.2 rfl), of_decide_eq_true (List.mem_filter.1 hy).2⟩
        · rintro ⟨r, hr, hd⟩
          rcases List.mem_append.1 hr with hr | hr
          · exact .inl ⟨r, hr, hd⟩
          · rw [List.mem_singleton.1 hr] at hd
            exact .inr (List.mem_filter.2 ⟨Dc.mem hE hs hk hpE hd, decide_eq_true hd⟩))
      rw [et, List.filter_append, List.filter_cons, if_pos hD, List.filter_nil, List.map_append, List.map_append] at hnext
      exact hnext
    · have hpA := hseen.2 hD
      simp only [decide_eq_true hpA, if_true]
      have hnext := ih (i + 1) A (by omega) hA (fun y => by
        rw [hm, et, List.filter_append, List.filter_cons, if_neg hD, List.filter_nil, List.append_nil])
      rw [et, List.filter_append, List.filter_cons, if_neg hD, List.filter_nil, List.append_nil] at hnext
      exact hnext
theorem doublesP (hn : n ≤ 20) {E F K : List (Pm n)} (hE : SubL E) (hF : SubL F) (hK : SubL K) (hs : ∀ x ∈ F, x ∈ E) (hk : ∀ x ∈ K, x ∈ E) (hl : E.length ≤ 240) : Ev (fun k => galoisref27_DoubleCosets.f k (E.map Pm.l) (F.map Pm.l) (K.map Pm.l)) ((dreps F K E).map Pm.l, (dreps F K E).map fun p => (((dcl F K E p).length : Nat) : Int)) := by
  have := ddP hn hE hF hK hs hk hl E.length 0 [] (by omega) List.Pairwise.nil (fun y => by simp)
  exact this
end Go.Proofs.Ytaaaljifclecnaa.QCo
end
section
/- What coset.check comes to: the first error of the groups, then of their degrees, of the permutations, of the subgroups. -/
namespace Go.Proofs.Ytaaaljifclecnaa.CoP
open Go.RowKit Go.Proofs.YtaaaljifclecnaaW.PrintWords Go.Proofs.YtaaaljifclecnaaW.PrintLast Go.Proofs.Ytaaaljifclecnaa.Plain Go.Proofs.Ytaaaljifclecnaa.Pms Go.Proofs.Ytaaaljifclecnaa.Bs
open Go.Proofs.Ytaaaljifclecnaa.PBs (permgroup_Check.f perm_Check.f permgroup_two.f)
open Go.Proofs.Ytaaaljifclecnaa.PCo (permgroup_IsSubgroup.f)
variable {n : Nat}
def firstG : List Grp → Int
  | [] => 0
  | g :: r => if chkG g.1 g.2 = 0 then firstG r else chkG g.1 g.2
theorem chk1_ev : ∀ L : List Grp, Ev (fun k => chk1 k L) (firstG L)
  | [] => Ev.now _
  | g :: r => by
    refine Ev.congr (f := fun k => (permgroup_Check.f k g.1 g.2).bind fun e => if e = 0 then chk1 k r else some e) (fun k => rfl) ?_
    refine Ev.bind (QBs.permgroup_Check.ev _ _) ?_
    rw [firstG]
    by_cases h : chkG g.1 g.2 = 0
    · simp only [if_pos h]; exact chk1_ev r
    · simp only [if_neg h]; exact Ev.now _
theorem chk3_ev (m : Int) : ∀ L : List (List Int), Ev (fun k => chk3 k m L) (chkAll m L)
  | [] => Ev.now _
  | p :: r => by
    refine Ev.congr (f := fun k => (perm_Check.f k p).bind fun e => if e = 0 then (if (p.length : Int) = m then chk3 k m r else some 2) else some e) (fun k => rfl) ?_
    refine Ev.bind (QBs.perm_Check.ev p) ?_
    rw [chkAll, chkE]
    by_cases h : chk p = 0
    · simp only [if_pos h]
      by_cases h2 : (p.length : Int) = m
      · simp only [if_pos h2, if_true]; exact chk3_ev m r
      · simp only [if_neg h2, if_neg (show ¬ (2 : Int) = 0 by decide)]; exact Ev.now _
    · simp only [if_neg h]; exact Ev.now _
theorem orderP (hn : n ≤ 20) {S E : List (Pm n)} (hS : S.length ≤ 32) (hE : E.Pairwise Lt) (hG : ∀ p, p ∈ E ↔ Gen S p) : Ev (fun k => Bs.permgroup_Order.f k (n : Int) (S.map Pm.l)) ((E.length : Int), 0) := by
  obtain ⟨A, E', h1, h2, e1, e2, e3, e4⟩ := grp_spec hn S
  obtain rfl : E = E' := sorted_eq hE e1 (fun p => (hG p).trans (e2 p).symm)
  refine Ev.congr (f := fun k => (permgroup_Check.f k (n : Int) (S.map Pm.l)).bind fun e => if e = 0 then (if 0 ≤ (n : Int) ∧ (n : Int) ≤ 20 then (new_ (n : Int).toNat (S.map Pm.l)).bind fun C => some (belowF C 0, 0) else none) else some (0, e)) (fun k => rfl) ?_
  refine Ev.bind (QBs.permgroup_Check.ev _ _) ?_
  rw [chkG_Pm hn S hS, if_pos rfl, if_pos ⟨by omega, by omega⟩, Int.toNat_natCast, h1]
  show Ev (fun _ => some (belowF A.enc 0, (0 : Int))) _
  rw [e3]
  exact Ev.now _
open Classical in
theorem isSubP (hn : n ≤ 20) {S T : List (Pm n)} (hS : S.length ≤ 32) (hT : T.length ≤ 32) : Ev (fun k => permgroup_IsSubgroup.f k (n : Int) (T.map Pm.l) (n : Int) (S.map Pm.l)) (decide (∀ g ∈ T, Gen S g), 0) := by
  refine Ev.congr (f := fun k => (permgroup_two.f k (n : Int) (T.map Pm.l) (n : Int) (S.map Pm.l)).bind fun t127 => (if t127 = 0 then ((Bs.permgroup_sub.f (n : Int) (T.map Pm.l) (n : Int) (S.map Pm.l)).bind fun t128 => (some (t128, 0))) else (some (false, t127)))) (fun k => rfl) ?_
  refine Ev.bind (QBs.permgroup_two.ev _ _ _ _) ?_
  rw [chkG_Pm hn S hS, chkG_Pm hn T hT]
  simp only [if_true]
  rw [sub_spec hn]
  exact Ev.now _
open Classical in
theorem chk5_ev (hn : n ≤ 20) {S : List (Pm n)} (hS : S.length ≤ 32) : ∀ subs : List (List (Pm n)), (∀ T ∈ subs, T.length ≤ 32) → Ev (fun k => chk5 k ((n : Int), S.map Pm.l) (subs.map fun T => ((n : Int), T.map Pm.l))) (if ∀ T ∈ subs, ∀ g ∈ T, Gen S g then 0 else 15)
  | [], _ => by rw [if_pos (by simp)]; exact Ev.now _
  | T :: r, hl => by
    refine Ev.congr (f := fun k => (permgroup_IsSubgroup.f k (n : Int) (T.map Pm.l) (n : Int) (S.map Pm.l)).bind fun t => if t.2 = 0 then (if t.1 = true then chk5 k ((n : Int), S.map Pm.l) (r.map fun T => ((n : Int), T.map Pm.l)) else some 15) else some 15) (fun k => rfl) ?_
    refine Ev.bind (isSubP hn hS (hl T (List.mem_cons_self ..))) ?_
    by_cases h : ∀ g ∈ T, Gen S g
    · simp only [decide_eq_true h, if_true]
      have := chk5_ev hn hS r (fun T hT => hl T (List.mem_cons_of_mem _ hT))
      by_cases h2 : ∀ T ∈ r, ∀ g ∈ T, Gen S g
      · rw [if_pos h2] at this
        rw [if_pos (fun T' hT' => (List.mem_cons.1 hT').elim (fun e => e ▸ h) (h2 T'))]
        exact this
      · rw [if_neg h2] at this
        rw [if_neg (fun h3 => h2 fun T' hT' => h3 T' (List.mem_cons_of_mem _ hT'))]
        exact this
    · simp only [decide_eq_false h, if_true, Bool.false_eq_true, if_false]
      rw [if_neg (fun h3 => h (h3 T (List.mem_cons_self ..)))]
      exact Ev.now _
theorem check_first {g : Grp} {subs : List Grp} (perms : List (List Int)) {e : Int} (h : firstG (g :: subs) = e) (he : e ≠ 0) : Ev (fun k => checkM k g subs perms) e := by
  unfold checkM
  refine Ev.bind (chk1_ev _) ?_
  simp only [h, if_neg he]
  exact Ev.now _
theorem check_shape {g : Grp} {subs : List Grp} (perms : List (List Int)) (h : firstG (g :: subs) = 0) (hd : ¬ ∀ x ∈ subs, x.1 = g.1) : Ev (fun k => checkM k g subs perms) 2 := by
  unfold checkM
  refine Ev.bind (chk1_ev _) ?_
  have e : (subs.all fun h => decide (h.1 = g.1)) = false := Bool.eq_false_iff.2 (fun h => hd (by simpa using h))
  simp only [h, if_true, e, Bool.false_eq_true, if_false]
  exact Ev.now _
open Classical in
theorem check_rest (hn : n ≤ 20) {S E : List (Pm n)} (hS : S.length ≤ 32) (hE : E.Pairwise Lt) (hG : ∀ p, p ∈ E ↔ Gen S p) (hl : E.length ≤ 5040) (subs : List (List (Pm n))) (hsub : ∀ T ∈ subs, T.length ≤ 32) {perms : List (List Int)} (hp : chkAll (n : Int) perms = 0) :
    Ev (fun k => checkM k ((n : Int), S.map Pm.l) (subs.map fun T => ((n : Int), T.map Pm.l)) perms) (if ∀ T ∈ subs, ∀ g ∈ T, Gen S g then 0 else 15) := by
  have hf : firstG (((n : Int), S.map Pm.l) :: subs.map fun T => ((n : Int), T.map Pm.l)) = 0 := by
    have : ∀ L : List (List (Pm n)), (∀ T ∈ L, T.length ≤ 32) → firstG (L.map fun T => ((n : Int), T.map Pm.l)) = 0 := fun L => by
      induction L with
      | nil => exact fun _ => rfl
      | cons T r ih =>
        intro h
        rw [List.map_cons, firstG]
        show (if chkG (n : Int) (T.map Pm.l) = 0 then _ else _) = _
        rw [if_pos (chkG_Pm hn T (h T (List.mem_cons_self ..)))]
        exact ih fun T' hT' => h T' (List.mem_cons_of_mem _ hT')
    exact this (S :: subs) (fun T hT => (List.mem_cons.1 hT).elim (fun e => e ▸ hS) (hsub T))
  unfold checkM
  refine Ev.bind (chk1_ev _) ?_
  have e1 : ((subs.map fun T => ((n : Int), T.map Pm.l)).all fun h => decide (h.1 = ((n : Int), S.map Pm.l).1)) = true := by simp
  simp only [hf, if_true, e1]
  refine Ev.bind (chk3_ev _ _) ?_
  simp only [hp, if_true]
  refine Ev.bind (orderP hn hS hE hG) ?_
  simp only [if_true, if_pos (show (E.length : Int) ≤ 5040 by omega)]
  exact chk5_ev hn hS subs hsub
end Go.Proofs.Ytaaaljifclecnaa.CoP
end
section
/- What coset's functions over what cosetsOf makes come to: products, keys, the least elements, the numbers. -/
namespace Go.Proofs.Ytaaaljifclecnaa.CoP
open Go.RowKit Go.Proofs.YtaaaljifclecnaaW.PrintWords Go.Proofs.YtaaaljifclecnaaW.PrintLast Go.Proofs.Ytaaaljifclecnaa.Plain Go.Proofs.Ytaaaljifclecnaa.Pms Go.Proofs.Ytaaaljifclecnaa.Bs
open Go.Proofs.Ytaaaljifclecnaa.PBs (permgroup_Check.f)
open Go.Proofs.Ytaaaljifclecnaa.PCo (coset_mul.f coset_mul.l0 coset_key.f coset_key.l0 coset_inverse.f coset_inverse.l0 permgroup_Elements.f)
variable {n : Nat}
theorem coset_mul.l_ev (a b : List Int) (hl : a.length < 35184372088832) (hr : ∀ x ∈ a, 0 ≤ x ∧ x < (b.length : Int)) : ∀ (d i : Nat), a.length - i = d → i ≤ a.length →
    Ev (fun k => coset_mul.l0 k b ((mulL a b).take i ++ (List.replicate a.length 0).drop i) a (a.length : Int) (i : Int)) (mulL a b) := by
  have hm : (mulL a b).length = a.length := by simp [mulL]
  intro d
  induction d with
  | zero =>
    intro i hd hi
    have e : i = (mulL a b).length := by omega
    refine Ev.step (f := fun _ => some (mulL a b)) (fun k => ?_) (Ev.now _)
    simp only [coset_mul.l0]
    rw [if_neg (by omega), e, fill_end _ _ (by simp [hm])]
  | succ d ih =>
    intro i hd hi
    have hlt : i < a.length := by omega
    have hx := hr a[i] (List.getElem_mem hlt)
    refine Ev.step (f := fun k => coset_mul.l0 k b ((mulL a b).take (i + 1) ++ (List.replicate a.length 0).drop (i + 1)) a (a.length : Int) ((i + 1 : Nat) : Int)) (fun k => ?_) (ih (i + 1) (by omega) (by omega))
    simp only [coset_mul.l0]
    rw [if_pos (by omega), if_pos (by omega), if_pos (by omega), rd_get a i hlt, if_pos hx.1, if_pos hx.2, if_pos (by rw [List.length_append, List.length_take, List.length_drop, List.length_replicate]; omega), wrap_nat (by omega)]
    rw [Int.toNat_natCast, set_fill (mulL a b) (List.replicate a.length 0) i (rd b a[i]) (by omega) (by simp [hm]) (by simp [mulL, List.getElem?_eq_getElem hlt])]
theorem coset_mul.ev (a b : List Int) (hl : a.length < 35184372088832) (hr : ∀ x ∈ a, 0 ≤ x ∧ x < (b.length : Int)) : Ev (fun k => coset_mul.f k a b) (mulL a b) := by
  refine Ev.congr (f := fun k => coset_mul.l0 k b ((mulL a b).take 0 ++ (List.replicate a.length 0).drop 0) a (a.length : Int) ((0 : Nat) : Int)) (fun k => ?_) (coset_mul.l_ev a b hl hr _ 0 rfl (Nat.zero_le _))
  unfold coset_mul.f
  rw [if_pos (by omega), if_pos (by omega)]
  simp
theorem mulP (hn : n ≤ 20) (p q : Pm n) : Ev (fun k => coset_mul.f k p.l q.l) (p * q).l := by
  have := coset_mul.ev p.l q.l (by rw [p.len]; omega) (fun x hx => by
    have := p.ok.1 x hx
    rw [p.len] at this; rw [q.len]; exact this)
  have e : mulL p.l q.l = (p * q).l := by
    rw [p.l_eq, q.l_eq, mulL_lf _ _ _ p.bij.lt, (p * q).l_eq]
    exact lf_congr fun i hi => (Pm.mul_ap p q hi).symm
  rwa [e] at this
theorem coset_inverse.l_ev (g : Nat → Nat) (n : Nat) (h : Bij n g) (hn : n ≤ 20) : ∀ (d i : Nat), n - i = d → i ≤ n →
    Ev (fun k => coset_inverse.l0 k (invL g n i) (lf g n) (n : Int) (i : Int)) (lf (Plain.inv g n) n) := by
  intro d
  induction d with
  | zero =>
    intro i hd hi
    have e : i = n := by omega
    subst e
    refine Ev.step (f := fun _ => some (lf (Plain.inv g i) i)) (fun k => ?_) (Ev.now _)
    simp only [coset_inverse.l0]
    rw [if_neg (by omega), invL_end h]
  | succ d ih =>
    intro i hd hi
    have hlt : i < n := by omega
    have hg := h.lt i hlt
    refine Ev.step (f := fun k => coset_inverse.l0 k (invL g n (i + 1)) (lf g n) (n : Int) ((i + 1 : Nat) : Int)) (fun k => ?_) (ih (i + 1) (by omega) (by omega))
    simp only [coset_inverse.l0]
    rw [if_pos (by omega), if_pos (by omega), if_pos (by rw [lf_length]; omega), rd_nat, lf_getD g n i hlt, if_pos (by omega), if_pos (by unfold invL; rw [lf_length]; omega), wrap_nat (by omega), Int.toNat_natCast, invL_step h i hlt]
theorem coset_inverse.ev (g : Nat → Nat) (n : Nat) (h : Bij n g) (hn : n ≤ 20) : Ev (fun k => coset_inverse.f k (lf g n)) (lf (Plain.inv g n) n) := by
  refine Ev.congr (fun k => ?_) (coset_inverse.l_ev g n h hn _ 0 rfl (Nat.zero_le _))
  unfold coset_inverse.f
  rw [lf_length, if_pos (by omega), if_pos (by omega), Int.toNat_natCast, invL_zero]
  rfl
def kb (p : Pm n) : ByteArray := strOfNums p.l
theorem kb_size (p : Pm n) : (kb p).size = n := by unfold kb; rw [strOfNums_size, p.len]
theorem kb_inj (hn : n ≤ 20) {p q : Pm n} (h : kb p = kb q) : p = q := by
  apply Pm.eq_of_l
  have h1 : (kb p).data.toList = (kb q).data.toList := by rw [h]
  unfold kb at h1
  rw [strOfNums_data, strOfNums_data] at h1
  apply List.ext_getElem (by rw [p.len, q.len])
  intro i hi hj
  have h2 : (p.l.map fun n => UInt8.ofNat n.toNat)[i]'(by rw [List.length_map]; exact hi) = (q.l.map fun n => UInt8.ofNat n.toNat)[i]'(by rw [List.length_map]; exact hj) := by simp only [h1]
  rw [List.getElem_map, List.getElem_map] at h2
  have a1 := p.ok.1 _ (List.getElem_mem hi)
  have a2 := q.ok.1 _ (List.getElem_mem hj)
  rw [p.len] at a1
  rw [q.len] at a2
  have h3 := congrArg UInt8.toNat h2
  rw [UInt8.toNat_ofNat_of_lt' (by show _ < 256; omega), UInt8.toNat_ofNat_of_lt' (by show _ < 256; omega)] at h3
  omega
theorem coset_key.l_ev (l : List Int) (hl : l.length ≤ 1000) (hr : ∀ x ∈ l, 0 ≤ x ∧ x < 256) : ∀ (d i : Nat), l.length - i = d → i ≤ l.length →
    Ev (fun k => coset_key.l0 k (l.take i ++ (List.replicate l.length 0).drop i) l (l.length : Int) (i : Int)) (strOfNums l) := by
  intro d
  induction d with
  | zero =>
    intro i hd hi
    have e : i = l.length := by omega
    refine Ev.step (f := fun _ => some (strOfNums l)) (fun k => ?_) (Ev.now _)
    simp only [coset_key.l0]
    rw [if_neg (by omega), e, fill_end _ _ (by simp)]
  | succ d ih =>
    intro i hd hi
    have hlt : i < l.length := by omega
    have hx := hr l[i] (List.getElem_mem hlt)
    refine Ev.step (f := fun k => coset_key.l0 k (l.take (i + 1) ++ (List.replicate l.length 0).drop (i + 1)) l (l.length : Int) ((i + 1 : Nat) : Int)) (fun k => ?_) (ih (i + 1) (by omega) (by omega))
    simp only [coset_key.l0]
    rw [if_pos (by omega), if_pos (by omega), if_pos (by omega), rd_get l i hlt, if_pos (by rw [List.length_append, List.length_take, List.length_drop, List.length_replicate]; omega), wrap_nat (by omega), Int.emod_eq_of_lt hx.1 hx.2]
    rw [Int.toNat_natCast, set_fill l (List.replicate l.length 0) i l[i] (by omega) (by simp) (List.getElem?_eq_getElem hlt)]
theorem keyP (hn : n ≤ 20) (p : Pm n) : Ev (fun k => coset_key.f k p.l) (kb p) := by
  have h := coset_key.l_ev p.l (by rw [p.len]; omega) (fun x hx => by have := p.ok.1 x hx; rw [p.len] at this; omega) _ 0 rfl (Nat.zero_le _)
  refine Ev.congr (fun k => ?_) h
  unfold coset_key.f
  rw [if_pos (by omega), if_pos (by rw [p.len]; omega)]
  simp
theorem storeP (hn : n ≤ 20) (p : Pm n) (c : Int) : ∀ (F : List (Pm n)) (f : ByteArray → Option Int), ∃ f', Ev (fun k => storeL k p.l c (F.map Pm.l) f) f' ∧ ∀ q : Pm n, f' (kb q) = if q ∈ F.map (· * p) then some c else f (kb q)
  | [], f => ⟨f, Ev.now _, fun q => by simp⟩
  | x :: F, f => by
    obtain ⟨f', h1, h2⟩ := storeP hn p c F (upd f (kb (x * p)) c)
    refine ⟨f', ?_, fun q => ?_⟩
    · refine Ev.congr (f := fun k => (coset_mul.f k x.l p.l).bind fun y => (coset_key.f k y).bind fun s => if s.size ≤ 1000 then storeL k p.l c (F.map Pm.l) (upd f s c) else none) (fun k => rfl) ?_
      refine Ev.bind (mulP hn x p) (Ev.bind (keyP hn _) ?_)
      simp only [kb_size, if_pos (show n ≤ 1000 by omega)]
      exact h1
    · rw [h2]
      unfold upd
      by_cases h : q ∈ F.map (· * p)
      · rw [if_pos h, if_pos (by rw [List.map_cons]; exact List.mem_cons_of_mem _ h)]
      · rw [if_neg h]
        by_cases e : q = x * p
        · rw [if_pos (by rw [e]), if_pos (by rw [List.map_cons, e]; exact List.mem_cons_self ..)]
        · rw [if_neg (fun h => e (kb_inj hn h)), if_neg (by rw [List.map_cons, List.mem_cons]; exact fun h2 => h2.elim e h)]
def NumIs (F R : List (Pm n)) (f : ByteArray → Option Int) : Prop := ∀ q : Pm n, f (kb q) = if lp F q ∈ R then some (((R.idxOf (lp F q) : Nat)) : Int) else none
theorem cosP (hn : n ≤ 20) {F E : List (Pm n)} (hF : SubL F) (hE : SubL E) (hs : ∀ x ∈ F, x ∈ E) : ∀ (d i : Nat) (f : ByteArray → Option Int), E.length - i = d → i ≤ E.length → NumIs F (reps F (E.take i)) f →
    ∃ f', Ev (fun k => cosL k (F.map Pm.l) ((E.drop i).map Pm.l) ((reps F (E.take i)).map Pm.l) f) ((reps F E).map Pm.l, f') ∧ NumIs F (reps F E) f' := by
  intro d
  induction d with
  | zero =>
    intro i f hd hi hf
    rw [List.drop_eq_nil_of_le (by omega)]
    rw [List.take_of_length_le (by omega)] at hf ⊢
    exact ⟨f, Ev.now _, hf⟩
  | succ d ih =>
    intro i f hd hi hf
    have hlt : i < E.length := by omega
    have et : E.take (i + 1) = E.take i ++ [E[i]] := (List.take_append_getElem hlt).symm
    have hmem : ∀ x, x ∈ E.take i ↔ x ∈ E ∧ Lt x E[i] := fun x => by
      constructor
      · intro h
        refine ⟨List.mem_of_mem_take h, ?_⟩
        obtain ⟨j, hj, rfl⟩ := List.getElem_of_mem h
        rw [List.length_take] at hj
        rw [List.getElem_take]
        exact List.pairwise_iff_getElem.1 hE.srt j i (by omega) hlt (by omega)
      · rintro ⟨h, h2⟩
        obtain ⟨j, hj, rfl⟩ := List.getElem_of_mem h
        rcases Nat.lt_or_ge j i with h3 | h3
        · exact List.mem_take_iff_getElem.2 ⟨j, by omega, rfl⟩
        · rcases Nat.lt_or_ge i j with h4 | h4
          · exact absurd h2 (Lt.asymm (List.pairwise_iff_getElem.1 hE.srt i j hlt hj h4))
          · have e : i = j := by omega
            subst e
            exact absurd h2 (Lt.irrefl _)
    obtain ⟨p, hp⟩ : ∃ p, E[i] = p := ⟨_, rfl⟩
    have hpE : p ∈ E := hp ▸ List.getElem_mem hlt
    rw [List.drop_eq_getElem_cons hlt, List.map_cons]
    simp only [hp] at hmem et ⊢
    have hreps : reps F (E.take (i + 1)) = reps F (E.take i) ++ if lp F p = p then [p] else [] := by
      rw [et]; unfold reps; rw [List.filter_append]
      congr 1
      by_cases e : lp F p = p
      · rw [if_pos e, List.filter_cons, if_pos (by simpa using e)]; rfl
      · rw [if_neg e, List.filter_cons, if_neg (by simpa using e)]; rfl
    have hnot : lp F p = p ↔ ¬ lp F p ∈ reps F (E.take i) := by
      rw [mem_reps, hmem]
      constructor
      · intro e h; rw [e] at h; exact Lt.irrefl _ h.1.2
      · intro h
        refine Classical.byContradiction fun e => h ⟨⟨lp_E hF hE hs hpE, ?_⟩, lp_lp hF p⟩
        exact lt_of_not (lp_self_le hF p) (fun h => e h.symm)
    by_cases e : lp F p = p
    · obtain ⟨f1, h1, h2⟩ := storeP hn p ((((reps F (E.take i)).map Pm.l).length : Nat) : Int) F f
      have hin := hnot.1 e
      rw [if_pos e] at hreps
      have hf1 : NumIs F (reps F (E.take (i + 1))) f1 := fun q => by
        rw [h2, hreps, List.length_map]
        by_cases hq : q ∈ F.map (· * p)
        · obtain ⟨x, hx, rfl⟩ := List.mem_map.1 hq
          have e2 : lp F (x * p) = p := (lp_mul hF p hx).trans e
          show (if x * p ∈ F.map (· * p) then _ else _) = _
          rw [if_pos hq, e2, if_pos (List.mem_append_right _ (List.mem_singleton.2 rfl)), List.idxOf_append, if_neg (by rw [← e]; exact hin)]
          simp
        · have hne : lp F q ≠ p := fun h3 => hq (by
            obtain ⟨x, hx, e3⟩ := (lp_iff hF p q).1 (by rw [e, h3])
            exact List.mem_map.2 ⟨x, hx, e3.symm⟩)
          rw [if_neg hq, hf q]
          by_cases h3 : lp F q ∈ reps F (E.take i)
          · rw [if_pos h3, if_pos (List.mem_append_left _ h3), List.idxOf_append, if_pos h3]
          · rw [if_neg h3, if_neg (by rw [List.mem_append, List.mem_singleton]; exact fun h4 => h4.elim h3 hne)]
      obtain ⟨f', h5, h6⟩ := ih (i + 1) f1 (by omega) (by omega) hf1
      refine ⟨f', ?_, h6⟩
      refine Ev.congr (f := fun k => (coset_key.f k p.l).bind fun s => if s.size ≤ 1000 then (if (f s).isSome = true then cosL k (F.map Pm.l) ((E.drop (i + 1)).map Pm.l) ((reps F (E.take i)).map Pm.l) f else (storeL k p.l ((((reps F (E.take i)).map Pm.l).length : Nat) : Int) (F.map Pm.l) f).bind fun f' => cosL k (F.map Pm.l) ((E.drop (i + 1)).map Pm.l) ((reps F (E.take i)).map Pm.l ++ [p.l]) f') else none) (fun k => rfl) ?_
      refine Ev.bind (keyP hn p) ?_
      have hfn : (f (kb p)).isSome = false := by rw [hf p, if_neg hin]; rfl
      simp only [kb_size, if_pos (show n ≤ 1000 by omega), hfn, Bool.false_eq_true, if_false]
      refine Ev.bind h1 ?_
      rw [hreps, List.map_append] at h5
      exact h5
    · have hin : lp F p ∈ reps F (E.take i) := Classical.byContradiction fun h => e (hnot.2 h)
      rw [if_neg e, List.append_nil] at hreps
      obtain ⟨f', h5, h6⟩ := ih (i + 1) f (by omega) (by omega) (by rw [hreps]; exact hf)
      refine ⟨f', ?_, h6⟩
      refine Ev.congr (f := fun k => (coset_key.f k p.l).bind fun s => if s.size ≤ 1000 then (if (f s).isSome = true then cosL k (F.map Pm.l) ((E.drop (i + 1)).map Pm.l) ((reps F (E.take i)).map Pm.l) f else (storeL k p.l ((((reps F (E.take i)).map Pm.l).length : Nat) : Int) (F.map Pm.l) f).bind fun f' => cosL k (F.map Pm.l) ((E.drop (i + 1)).map Pm.l) ((reps F (E.take i)).map Pm.l ++ [p.l]) f') else none) (fun k => rfl) ?_
      refine Ev.bind (keyP hn p) ?_
      have hfn : (f (kb p)).isSome = true := by rw [hf p, if_pos hin]; rfl
      simp only [kb_size, if_pos (show n ≤ 1000 by omega), hfn, if_true]
      rw [hreps] at h5
      exact h5
theorem elsP (hn : n ≤ 20) {S E : List (Pm n)} (hS : S.length ≤ 32) (hE : E.Pairwise Lt) (hG : ∀ p, p ∈ E ↔ Gen S p) (hl : E.length ≤ 5040) : Ev (fun k => permgroup_Elements.f k (n : Int) (S.map Pm.l)) (E.map Pm.l, 0) := by
  obtain ⟨A, E', h1, h2, e1, e2, e3, e4⟩ := grp_spec hn S
  obtain rfl : E = E' := sorted_eq hE e1 (fun p => (hG p).trans (e2 p).symm)
  refine Ev.congr (f := fun k => (permgroup_Check.f k (n : Int) (S.map Pm.l)).bind fun t => (if t = 0 then ((permgroup_elements.f (n : Int) (S.map Pm.l)).bind fun bt121 => (some (bt121.1, bt121.2))) else (some (([] : List (List Int)), t)))) (fun k => rfl) ?_
  refine Ev.bind (QBs.permgroup_Check.ev _ _) ?_
  rw [chkG_Pm hn S hS, if_pos rfl]
  have e : permgroup_elements.f (n : Int) (S.map Pm.l) = some (E.map Pm.l, 0) := by
    unfold permgroup_elements.f
    rw [if_pos ⟨by omega, by omega⟩, Int.toNat_natCast, h1]
    show (if 5040 < belowF A.enc 0 then some ([], 5) else (elements A.enc).bind fun E => some (E, 0)) = _
    rw [e3, if_neg (by omega), e4 (by omega)]; rfl
  rw [e]
  exact Ev.now _
theorem cosMP (hn : n ≤ 20) {S T E F : List (Pm n)} (hS : S.length ≤ 32) (hT : T.length ≤ 32) (hE : E.Pairwise Lt) (hF : F.Pairwise Lt) (hG : ∀ p, p ∈ E ↔ Gen S p) (hH : ∀ p, p ∈ F ↔ Gen T p) (hl : E.length ≤ 5040) (hs : ∀ x ∈ F, x ∈ E) :
    ∃ C : CosV, Ev (fun k => cosM k (n : Int) (S.map Pm.l) (n : Int) (T.map Pm.l)) C ∧ C.els = E.map Pm.l ∧ C.own = F.map Pm.l ∧ C.least = (reps F E).map Pm.l ∧ NumIs F (reps F E) C.num := by
  have hsE := SubL.of_gen hE hG
  have hsF := SubL.of_gen hF hH
  have hlF : F.length ≤ 5040 := Nat.le_trans ((sorted_nodup hF).length_le_of_subset hs) hl
  obtain ⟨f', h1, h2⟩ := cosP hn hsF hsE hs E.length 0 (fun _ => none) (by omega) (Nat.zero_le _) (fun q => by simp [reps])
  refine ⟨⟨_, _, _, f'⟩, ?_, rfl, rfl, rfl, h2⟩
  refine Ev.bind (elsP hn hS hE hG hl) (Ev.bind (elsP hn hT hF hH hlF) ?_)
  simp only [List.length_map, if_pos (show E.length ≤ 6000 ∧ F.length ≤ 6000 by omega)]
  exact Ev.bind h1 (Ev.now _)
end Go.Proofs.Ytaaaljifclecnaa.CoP
end
section
/- Two groups, as the law functions of chapter 27 meet them. -/
namespace Go.Proofs.Ytaaaljifclecnaa.QPr
open Go.RowKit Go.Proofs.YtaaaljifclecnaaW.PrintWords Go.Proofs.Ytaaaljifclecnaa.Plain Go.Proofs.Ytaaaljifclecnaa.Pms Go.Proofs.Ytaaaljifclecnaa.CoP
open Go.Proofs.Ytaaaljifclecnaa.Bs (Lt checkM cosM CosV indexV repsV findV fitL Grp sorted_nodup)
open Go.Proofs.Ytaaaljifclecnaa.PGp (galoisref27_Groups.f galoislaw27_groups.f galoisref23_Elements.f galoisref23_Subset.f)
open Go.Proofs.Ytaaaljifclecnaa.PRf (galoisref23_Two.f)
open Go.Proofs.Ytaaaljifclecnaa.PCo (coset_key.f)
variable {n : Nat}
def twoE (a0 : Int) (L0 : List (List Int)) (a1 : Int) (L1 : List (List Int)) : Int := if chkG a0 L0 = 0 then (if chkG a1 L1 = 0 then (if a0 = a1 then 0 else 2) else chkG a1 L1) else chkG a0 L0
structure Pair (a0 : Int) (L0 : List (List Int)) (a1 : Int) (L1 : List (List Int)) (n : Nat) (S E T F : List (Pm n)) : Prop where
  d0 : a0 = (n : Int)
  d1 : a1 = (n : Int)
  g0 : S.map Pm.l = L0
  g1 : T.map Pm.l = L1
  hn : n ≤ 20
  hS : S.length ≤ 32
  hT : T.length ≤ 32
  srtE : E.Pairwise Lt
  srtF : F.Pairwise Lt
  allE : ∀ p, p ∈ E ↔ Gen S p
  allF : ∀ p, p ∈ F ↔ Gen T p
  lenE : E.length ≤ 240
  lenF : F.length ≤ 240
theorem Pair.subE {a0 L0 a1 L1 n} {S E T F : List (Pm n)} (h : Pair a0 L0 a1 L1 n S E T F) : SubL E := SubL.of_gen h.srtE h.allE
theorem Pair.subF {a0 L0 a1 L1 n} {S E T F : List (Pm n)} (h : Pair a0 L0 a1 L1 n S E T F) : SubL F := SubL.of_gen h.srtF h.allF
def subE (E F : List (Pm n)) : Int := if ∀ x ∈ F, x ∈ E then 0 else 15
theorem two_ev (a0 : Int) (L0 : List (List Int)) (a1 : Int) (L1 : List (List Int)) : Ev (fun k => galoisref23_Two.f k a0 L0 a1 L1) (twoE a0 L0 a1 L1) := QCo.twoP a0 L0 a1 L1
theorem groups_ev {a0 L0 a1 L1 n} {S E T F : List (Pm n)} (h : Pair a0 L0 a1 L1 n S E T F) (ht : twoE a0 L0 a1 L1 = 0) : Ev (fun k => galoislaw27_groups.f k a0 L0 a1 L1) (E.map Pm.l, F.map Pm.l, subE E F) := by
  obtain ⟨rfl, rfl, rfl, rfl, hn, hS, hT, srtE, srtF, allE, allF, lenE, lenF⟩ := h
  refine Ev.congr (f := fun k => (galoisref27_Groups.f k (n : Int) (S.map Pm.l) (n : Int) (T.map Pm.l)).bind fun bt141 => (some (bt141.1, bt141.2.1, bt141.2.2))) (fun k => rfl) ?_
  refine Ev.bind (a := ((E.map Pm.l, F.map Pm.l, subE E F) : List (List Int) × List (List Int) × Int)) ?_ (Ev.now _)
  refine Ev.congr (f := fun k => (galoisref23_Two.f k (n : Int) (S.map Pm.l) (n : Int) (T.map Pm.l)).bind fun t125 => (if t125 = 0 then ((galoisref23_Elements.f k (n : Int) (S.map Pm.l)).bind fun bt126 => ((galoisref23_Elements.f k (n : Int) (T.map Pm.l)).bind fun bt130 => ((galoisref23_Subset.f k bt130.1 bt126.1).bind fun t134 => (if t134 = true then (some (bt126.1, bt130.1, 0)) else (some (bt126.1, bt130.1, 15)))))) else (some (([] : List (List Int)), ([] : List (List Int)), t125)))) (fun k => rfl) ?_
  refine Ev.bind (two_ev _ _ _ _) ?_
  rw [ht]
  simp only [if_true]
  refine Ev.bind (QCo.elsRP hn srtE allE lenE) (Ev.bind (QCo.elsRP hn srtF allF lenF) (Ev.bind (QCo.subsetP hn F srtE (by omega) (by omega)) ?_))
  unfold subE
  by_cases c : ∀ x ∈ F, x ∈ E
  · simp only [decide_eq_true c, if_true, if_pos c]; exact Ev.now _
  · simp only [decide_eq_false c, Bool.false_eq_true, if_false, if_neg c]; exact Ev.now _
theorem gens_sub {a0 L0 a1 L1 n} {S E T F : List (Pm n)} (h : Pair a0 L0 a1 L1 n S E T F) : (∀ x ∈ F, x ∈ E) ↔ ∀ g ∈ T, Gen S g := by
  constructor
  · exact fun hs g hg => (h.allE g).1 (hs g ((h.allF g).2 (Gen.of hg)))
  · exact fun hs x hx => (h.allE x).2 (Gen.mono hs ((h.allF x).1 hx))
theorem cos_ev {a0 L0 a1 L1 n} {S E T F : List (Pm n)} (h : Pair a0 L0 a1 L1 n S E T F) (hs : ∀ x ∈ F, x ∈ E) : ∃ C : CosV, Ev (fun k => cosM k a0 L0 a1 L1) C ∧ C.els = E.map Pm.l ∧ C.own = F.map Pm.l ∧ C.least = (reps F E).map Pm.l ∧ NumIs F (reps F E) C.num := by
  obtain ⟨rfl, rfl, rfl, rfl, hn, hS, hT, srtE, srtF, allE, allF, lenE, lenF⟩ := h
  exact cosMP hn hS hT srtE srtF allE allF (by omega) hs
theorem reps_len (F E : List (Pm n)) : (reps F E).length ≤ E.length := List.length_filter_le _ _
theorem fit_reps (hn : n ≤ 20) (F : List (Pm n)) {E : List (Pm n)} (hl : E.length ≤ 240) : fitL ((reps F E).map Pm.l) = true := by
  unfold fitL
  rw [Bool.and_eq_true, decide_eq_true_iff, List.length_map]
  refine ⟨by have := reps_len F E; omega, List.all_eq_true.2 fun x hx => ?_⟩
  obtain ⟨p, _, rfl⟩ := List.mem_map.1 hx
  rw [decide_eq_true_iff, p.len]; omega
end Go.Proofs.Ytaaaljifclecnaa.QPr
end
section
/- What coset's tables, actions, and the test of normality come to. -/
namespace Go.Proofs.Ytaaaljifclecnaa.CoP
open Go.RowKit Go.Proofs.YtaaaljifclecnaaW.PrintWords Go.Proofs.YtaaaljifclecnaaW.PrintLast Go.Proofs.Ytaaaljifclecnaa.Plain Go.Proofs.Ytaaaljifclecnaa.Pms Go.Proofs.Ytaaaljifclecnaa.Bs
open Go.Proofs.Ytaaaljifclecnaa.PCo (coset_mul.f coset_key.f coset_inverse.f)
variable {n : Nat}
theorem num_cnum {F E : List (Pm n)} (hF : SubL F) (hE : SubL E) (hs : ∀ x ∈ F, x ∈ E) {f : ByteArray → Option Int} (h : NumIs F (reps F E) f) {p : Pm n} (hp : p ∈ E) : (f (kb p)).getD 0 = ((cnum F E p : Nat) : Int) := by
  rw [h p, if_pos ((lp_reps hF hE hs p).2 hp)]; rfl
end Go.Proofs.Ytaaaljifclecnaa.CoP
end
