/- slices.Compact at flows (layer 19). -/
import Derived.Test.YtladjllencanlaaOwnE
import Derived.Test.YtladjllencanlaaPFlowTellsx1
import Derived.Lib.SlicesCompact
import Derived.Lib.SliceRun
import Derived.Deep.RegionHeld3
import Derived.Deep.LoopGhost
namespace Go.Proofs.Ytladjllencanlaa.Own
open Go.RowKit Go.Proofs.Ytladjllencanlaa.PFlowTells Go.Proofs.YtladjllencanlaaW.PrintWords Go.Proofs.YtladjllencanlaaW.PrintLast Go.Proofs.YtladjllencanlaaW.PrintMore
set_option linter.unusedVariables false
set_option linter.unusedSimpArgs false

attribute [local go_sem high] eqA27
instance : Inhabited S27 := ⟨z27⟩
instance : DecidableEq S27 := fun x y => if h : x.f0 = y.f0 ∧ x.f1 = y.f1 ∧ x.f2 = y.f2 then isTrue (by cases x; cases y; simp_all) else isFalse (fun e => h (by subst e; exact ⟨rfl, rfl, rfl⟩))
theorem s27_eq {x y : S27} : (x.f0 == y.f0 && (x.f1 == y.f1 && (x.f2 == y.f2))) = decide (x = y) := by
  rw [Bool.eq_iff_iff]
  cases x; cases y
  simp
/-- A block that holds flows. -/
def FB (w : World) (g : Nat) (d : Array S27) : Prop := ∃ cur, w.heap[g]? = some (.cells cur 27 (0, 0)) ∧ ∀ i, i < d.size → cur[i * 3]? = some (.int .i64 d[i]!.f0) ∧ cur[i * 3 + 1]? = some (.int .i64 d[i]!.f1) ∧ cur[i * 3 + 2]? = some (.int .i64 d[i]!.f2)
theorem FB.cells {w : World} {g : Nat} {d : Array S27} (h : FB w g d) (i : Nat) (hi : i < d.size) : w.cell? ⟨g, i * 3, none⟩ = some (.int .i64 d[i]!.f0) ∧ w.cell? ⟨g, i * 3 + 1, none⟩ = some (.int .i64 d[i]!.f1) ∧ w.cell? ⟨g, i * 3 + 2, none⟩ = some (.int .i64 d[i]!.f2) := by
  obtain ⟨cur, hh, hc⟩ := h
  obtain ⟨h0, h1, h2⟩ := hc i hi
  exact ⟨(blk_cell hh _).trans h0, (blk_cell hh _).trans h1, (blk_cell hh _).trans h2⟩
theorem FB.free {w : World} {g : Nat} {d : Array S27} (h : FB w g d) (o : Nat) : w.frozen? ⟨g, o, none⟩ = false := by
  obtain ⟨cur, hh, hc⟩ := h
  exact blk_frozen hh o
theorem FB.drewN {w : World} {g : Nat} {d : Array S27} (h : FB w g d) (n : Nat) : FB (w.drewN n) g d := h
theorem FB.drew {w : World} {g : Nat} {d : Array S27} (h : FB w g d) : FB w.drew g d := h
theorem get!_set (d : Array S27) (i j : Nat) (x : S27) (hi : i < d.size) (hj : j < d.size) : (d.setIfInBounds i x)[j]! = if i = j then x else d[j]! := by
  rw [getElem!_pos _ j (by simpa using hj), Array.getElem_setIfInBounds, getElem!_pos _ j hj]
theorem FB.set {w : World} {g : Nat} {d : Array S27} (h : FB w g d) (i : Nat) (hi : i < d.size) (x : S27) : FB (((w.setCell ⟨g, i * 3, none⟩ (.int .i64 x.f0)).setCell ⟨g, i * 3 + 1, none⟩ (.int .i64 x.f1)).setCell ⟨g, i * 3 + 2, none⟩ (.int .i64 x.f2)) g (d.setIfInBounds i x) := by
  obtain ⟨cur, hh, hc⟩ := h
  refine ⟨_, blk_set (blk_set (blk_set hh _ _) _ _) _ _, fun j hj => ?_⟩
  have hj' : j < d.size := by simpa using hj
  obtain ⟨h0, h1, h2⟩ := hc j hj'
  obtain ⟨k0, k1, k2⟩ := hc i hi
  have s0 : i * 3 < cur.size := (Array.getElem?_eq_some_iff.1 k0).1
  have s1 : i * 3 + 1 < cur.size := (Array.getElem?_eq_some_iff.1 k1).1
  have s2 : i * 3 + 2 < cur.size := (Array.getElem?_eq_some_iff.1 k2).1
  rw [get!_set d i j x hi hj']
  by_cases e : i = j
  · subst e
    rw [if_pos rfl]
    simp [Array.getElem?_setIfInBounds, s0, s1, s2]
  · rw [if_neg e]
    simp only [Array.getElem?_setIfInBounds]
    refine ⟨?_, ?_, ?_⟩
    · rw [if_neg (by omega), if_neg (by omega), if_neg (by omega)]; exact h0
    · rw [if_neg (by omega), if_neg (by omega), if_neg (by omega)]; exact h1
    · rw [if_neg (by omega), if_neg (by omega), if_neg (by omega)]; exact h2
theorem FB.take {w : World} {g : Nat} {d d' : Array S27} (h : FB w g d) (hs : d'.size ≤ d.size) (he : ∀ i, i < d'.size → d'[i]! = d[i]!) : FB w g d' := by
  obtain ⟨cur, hh, hc⟩ := h
  exact ⟨cur, hh, fun i hi => by rw [he i hi]; exact hc i (by omega)⟩
/-- What is stored behind changes nothing ahead. -/
theorem setCells_blk {g : Nat} {ty : TypeId} : ∀ (vs : List Value) (o : Nat) (w : World) (cur : Array Value), w.heap[g]? = some (.cells cur ty (0, 0)) → ∃ cur', (w.setCells g o vs).heap[g]? = some (.cells cur' ty (0, 0)) ∧ ∀ t, t < o → cur'[t]? = cur[t]?
  | [], _, _, cur, h => ⟨cur, h, fun _ _ => rfl⟩
  | v :: r, o, w, cur, h => by
    obtain ⟨cur', h', hc⟩ := setCells_blk r (o + 1) (w.setCell ⟨g, o, none⟩ v) _ (blk_set h o v)
    refine ⟨cur', h', fun t ht => ?_⟩
    rw [hc t (by omega), Array.getElem?_setIfInBounds, if_neg (by omega)]
theorem FB.cleared {w : World} {g : Nat} {d : Array S27} (h : FB w g d) (k : Nat) (hk : k ≤ d.size) (vs : List Value) {d' : Array S27} (hs : d'.size = k) (he : ∀ i, i < k → d'[i]! = d[i]!) : FB (w.setCells g (k * 3) vs) g d' := by
  obtain ⟨cur, hh, hc⟩ := h
  obtain ⟨cur', hh', hc'⟩ := setCells_blk vs (k * 3) w cur hh
  refine ⟨cur', hh', fun i hi => ?_⟩
  rw [he i (by omega), hc' _ (by omega), hc' _ (by omega), hc' _ (by omega)]
  exact hc i (by omega)
/-- All blocks but one are as they were. -/
structure Upto (w w' : World) (g : Nat) : Prop where
  os : w'.os = w.os
  tape : w'.tape = w.tape
  output : w'.output = w.output
  size : w.heap.size ≤ w'.heap.size
  block : ∀ k, k < w.heap.size → k ≠ g → w'.heap[k]? = w.heap[k]?
theorem Upto.refl (w : World) (g : Nat) : Upto w w g := ⟨rfl, rfl, rfl, Nat.le_refl _, fun _ _ _ => rfl⟩
theorem Upto.drewN {w w' : World} {g : Nat} (h : Upto w w' g) (n : Nat) : Upto w (w'.drewN n) g := ⟨h.os, h.tape, h.output, h.size, h.block⟩
theorem Upto.drew {w w' : World} {g : Nat} (h : Upto w w' g) : Upto w w'.drew g := ⟨h.os, h.tape, h.output, h.size, h.block⟩
theorem Upto.setCell {w w' : World} {g : Nat} (h : Upto w w' g) (o : Nat) (v : Value) : Upto w (w'.setCell ⟨g, o, none⟩ v) g :=
  ⟨h.os, h.tape, h.output, by simpa [World.setCell] using h.size, fun k hk hne => (Below.heap_setCell w' ⟨g, o, none⟩ v k hne).trans (h.block k hk hne)⟩
theorem Upto.setCells {w : World} {g : Nat} : ∀ (vs : List Value) (o : Nat) (w' : World), Upto w w' g → Upto w (w'.setCells g o vs) g
  | [], _, _, h => h
  | v :: r, o, w', h => Upto.setCells r (o + 1) _ (h.setCell o v)
theorem Upto.below {w0 w w' : World} {g : Nat} (h : Upto w w' g) (hb : Below w0.heap.size w0 w) (hg : w0.heap.size ≤ g) : Below w0.heap.size w0 w' :=
  ⟨h.os.trans hb.os, h.tape.trans hb.tape, h.output.trans hb.output, Nat.le_trans hb.size h.size, fun k hk => (h.block k (Nat.lt_of_lt_of_le hk hb.size) (by omega)).trans (hb.block k hk)⟩
theorem infoE27 : ∃ i, Try.prog.info? 27 = some i ∧ i.size = 3 := by
  have h : (Try.prog.info? 27).map (fun i => i.size) = some 3 := by kernel_rfl
  obtain ⟨i, hi, hx⟩ := Option.map_eq_some_iff.1 h
  exact ⟨i, hi, hx⟩
/-- clear of flows. -/
theorem clear_flows (w : World) (g k n c : Nat) (hn : 0 < n) (hc : ∀ j, j < n * 3 → (w.cell? ⟨g, k * 3 + j, none⟩).isSome = true) (hf : ∀ o, w.frozen? ⟨g, o, none⟩ = false) :
    ∃ vs, ∀ ty, (Builtin.clear_ #[24] ty #[.slice (some ⟨g, k * 3, none⟩) n c]).run Try.prog w = .ok (.tuple #[]) (w.setCells g (k * 3) vs) := by
  have hlen : (Builtin.zeroCells (Value.cells (.agg #[.int .i64 0, .int .i64 0, .int .i64 0])) n).toList.length = n * 3 := by
    simp [Builtin.zeroCells, Value.cells]
  have hst := run_storeCells_cells (P := Try.prog) g (k * 3) (Builtin.zeroCells (Value.cells (.agg #[.int .i64 0, .int .i64 0, .int .i64 0])) n).toList 0 w (fun j hj => by rw [Nat.add_zero]; exact hc j (by omega)) (fun j hj => hf _) (by
    intro v hv
    simp only [Builtin.zeroCells, Value.cells, Array.toList_map, List.mem_map] at hv
    obtain ⟨i, _, rfl⟩ := hv
    have hi : i % 3 < 3 := Nat.mod_lt _ (by omega)
    show (#[Value.int .i64 0, .int .i64 0, .int .i64 0][i % 3]!).oneCell' = true
    match i % 3, hi with
    | 0, _ => rfl
    | 1, _ => rfl
    | 2, _ => rfl)
  rw [Nat.add_zero] at hst
  obtain ⟨m, rfl⟩ : ∃ m, n = m + 1 := ⟨n - 1, by omega⟩
  have hv : ∀ w, (zeroValue 27).run Try.prog w = .ok (.agg #[.int .i64 0, .int .i64 0, .int .i64 0]) w := Try.zeroValue27
  refine ⟨(Builtin.zeroCells (Value.cells (.agg #[.int .i64 0, .int .i64 0, .int .i64 0])) (m + 1)).toList, fun ty => ?_⟩
  generalize hz : Builtin.zeroCells (Value.cells (.agg #[.int .i64 0, .int .i64 0, .int .i64 0])) (m + 1) = vs at hst ⊢
  simp [Builtin.clear_, run_underlying Try.underlying24, hv]
  rw [hz, hst]
  rfl
end Go.Proofs.Ytladjllencanlaa.Own
