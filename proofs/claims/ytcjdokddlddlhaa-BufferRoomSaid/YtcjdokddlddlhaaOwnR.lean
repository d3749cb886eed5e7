/- Reading a slice of Op (layer 6): three whole numbers an element. -/
import Derived.Test.YtcjdokddlddlhaaOwnA
import Derived.Deep.Slices
import Derived.Deep.Fields
import Derived.ChangeSame
namespace Go.Proofs.Ytcjdokddlddlhaa.Own
open Go.RowKit Go.Proofs.YtcjdokddlddlhaaW.PrintWords
open Go.ChangeShapes Go.WideShapes Go.Deep
set_option linter.unusedVariables false
set_option linter.unusedSimpArgs false

section
variable {H : Type} {enc : TypeId × Value → H} {P : Program} {w : World} {base : Nat} {spare : Nat → Bool} {held : Bool}
theorem open_slice_fields {t e : TypeId} {fs : Array Field} {fuel : Nat} {cs : List Value} {x : DataW H × List MemPlace} (ht : P.underlying t = some (.slice e)) (he : P.underlying e = some (.struct fs))
    (hone : oneCellFields P fs = true) (hC : P.cellsOf e = fs.size) (h : DataW.trod enc P w base spare held fuel t cs = some x) :
    (cs = [.slice none 0 0] ∧ x = (.nil, [])) ∨
    ∃ (a : Addr) (len cap m : Nat) (D : Nat → DataW H) (Pl : Nat → List MemPlace), cs = [.slice (some a) len cap] ∧ base ≤ a.block ∧ len ≤ cap ∧ cap ≤ maxLen ∧ m = (if spare a.block then cap else len) ∧
      x = (.slice ((List.range len).map D) ((List.range (m - len)).map fun j => D (len + j)), MemPlace.row a (m * fs.size) ++ (List.range m).flatMap Pl) ∧
      ∀ i, i < m → ∃ (ys : List (DataW H × List MemPlace)) (n : Nat), D i = .agg (ys.map (·.1)) ∧ Pl i = ys.flatMap (·.2) ∧ ys.length = fs.size ∧
        ∀ (j : Nat) (f : Field), fs[j]? = some f → ∃ (v : Value) (y : DataW H × List MemPlace), w.cell? (a.add (i * fs.size + j)) = some v ∧ ys[j]? = some y ∧ DataW.trod enc P w base spare held n f.type [v] = some y := by
  rcases open_slice ht h with h0 | ⟨a, len, cap, m, n, D, Pl, hcs, hb, hl, hm, hmm, hx, hi⟩
  · exact .inl h0
  · refine .inr ⟨a, len, cap, m, D, Pl, hcs, hb, hl, hm, hmm, by rw [hC] at hx; exact hx, fun i him => ?_⟩
    obtain ⟨cs', hc, ht'⟩ := hi i him
    rw [hC] at hc
    obtain ⟨ys, n', hn', hy, hlen, hyl, hf⟩ := DataW.trod_struct he ht'
    obtain ⟨_, hcl, hat⟩ := World.cells?_some hc
    simp only [Prod.mk.injEq] at hy
    refine ⟨ys, n', hy.1, hy.2, hyl, fun j f hj => ?_⟩
    obtain ⟨ho, hk⟩ := hone_of hone j f hj
    have hjl : j < fs.size := (Array.getElem?_eq_some_iff.1 hj).1
    have hcell := hat j hjl
    have hv : cs'[j]? = some (cs'[j]'(by omega)) := List.getElem?_eq_getElem (by omega)
    have h1 := hf j f hj
    rw [ho, hk] at h1
    have hone' : (cs'.drop j).take 1 = [cs'[j]'(by omega)] := by
      rw [List.drop_eq_getElem_cons (by omega)]
      rfl
    rw [hone'] at h1
    have hys : ys[j]? = some (ys[j]'(by omega)) := List.getElem?_eq_getElem (by omega)
    refine ⟨_, _, ?_, hys, h1.trans hys⟩
    rw [← Go.Deep.add_add, hcell, hv]
end

/-- The elements of a slice of Op that came in: kind, number, short number. -/
def ReadsOps (w : World) (a : Option Addr) (len : Nat) (Z : Nat → Nat → Int) : Prop :=
  len ≤ maxLen ∧ (0 < len → ∃ ad, a = some ad ∧ ∀ k, k < len →
    ((Lit.int .u8 (Z k 0)).wf = true ∧ w.cell? (ad.add (k * 3)) = some (.int .u8 (Z k 0))) ∧
    ((Lit.int .u8 (Z k 1)).wf = true ∧ w.cell? (ad.add (k * 3 + 1)) = some (.int .u8 (Z k 1))) ∧
    ((Lit.int .u16 (Z k 2)).wf = true ∧ w.cell? (ad.add (k * 3 + 2)) = some (.int .u16 (Z k 2))))

theorem ReadsOps.open_ {H : Type} {enc : TypeId × Value → H} {w : World} {a : Option Addr} {len cap : Nat} {d : DataW H} {p : List MemPlace} (h : DataW.Trod enc Try.prog w 0 (fun _ => true) true 35 (.slice a len cap) d p) : ∃ Z, ReadsOps w a len Z := by
  obtain ⟨fuel, hf⟩ := h
  rcases open_slice_fields Try.underlying35 Try.underlying40 (by kernel_rfl) (by kernel_rfl) hf with ⟨hcs, _⟩ | ⟨x, l, c, m, D, Pl, hcs, _, hl, hm, hmm, _, hi⟩
  · simp [Value.cells] at hcs
    obtain ⟨rfl, rfl, rfl⟩ := hcs
    exact ⟨fun _ _ => 0, Nat.zero_le _, fun h => absurd h (Nat.lt_irrefl _)⟩
  · simp [Value.cells] at hcs
    obtain ⟨rfl, rfl, rfl⟩ := hcs
    simp only [if_true] at hmm
    subst hmm
    have key : ∀ k, k < len → ∃ z : Nat → Int, ((Lit.int .u8 (z 0)).wf = true ∧ w.cell? (x.add (k * 3)) = some (.int .u8 (z 0))) ∧
        ((Lit.int .u8 (z 1)).wf = true ∧ w.cell? (x.add (k * 3 + 1)) = some (.int .u8 (z 1))) ∧
        ((Lit.int .u16 (z 2)).wf = true ∧ w.cell? (x.add (k * 3 + 2)) = some (.int .u16 (z 2))) := by
      intro k hk
      obtain ⟨ys, n, _, _, _, hf⟩ := hi k (Nat.lt_of_lt_of_le hk hl)
      obtain ⟨v0, y0, c0, _, t0⟩ := hf 0 _ rfl
      obtain ⟨v1, y1, c1, _, t1⟩ := hf 1 _ rfl
      obtain ⟨v2, y2, c2, _, t2⟩ := hf 2 _ rfl
      obtain ⟨z0, e0, _, u0⟩ := DataW.trod_int Try.underlying5 t0
      obtain ⟨z1, e1, _, u1⟩ := DataW.trod_int Try.underlying5 t1
      obtain ⟨z2, e2, _, u2⟩ := DataW.trod_int Try.underlying28 t2
      obtain rfl := (List.cons.inj e0).1
      obtain rfl := (List.cons.inj e1).1
      obtain rfl := (List.cons.inj e2).1
      exact ⟨fun j => if j = 0 then z0 else if j = 1 then z1 else z2, ⟨u0, c0⟩, ⟨u1, c1⟩, ⟨u2, c2⟩⟩
    refine ⟨fun k => if h : k < len then (key k h).choose else fun _ => 0, Nat.le_trans hl hm, fun _ => ⟨x, rfl, fun k hk => ?_⟩⟩
    simp only [dif_pos hk]
    exact (key k hk).choose_spec

/-- An element, as it is read later on. -/
theorem ReadsOps.at_ {w wr : World} {ad : Addr} {len : Nat} {Z : Nat → Nat → Int} (hr : ReadsOps w (some ad) len Z) (hb : Below w.heap.size w wr) (k : Nat) (hk : k < len) :
    ∃ z0 z1 z2 : Int, (Lit.int .u8 z0).wf = true ∧ (Lit.int .u8 z1).wf = true ∧ (Lit.int .u16 z2).wf = true ∧ wr.cell? (ad.add (k * 3)) = some (.int .u8 z0) ∧
      wr.cell? ⟨(ad.add (k * 3)).block, (ad.add (k * 3)).off + 1, none⟩ = some (.int .u8 z1) ∧ wr.cell? ⟨(ad.add (k * 3)).block, (ad.add (k * 3)).off + 2, none⟩ = some (.int .u16 z2) := by
  obtain ⟨ad', e, hc⟩ := hr.2 (by omega)
  obtain rfl := Option.some.inj e
  obtain ⟨⟨u0, c0⟩, ⟨u1, c1⟩, ⟨u2, c2⟩⟩ := hc k hk
  rw [← Go.Deep.add_add] at c1 c2
  exact ⟨_, _, _, u0, u1, u2, pw_cell_below hb c0, pw_cell_below hb c1, pw_cell_below hb c2⟩
end Go.Proofs.Ytcjdokddlddlhaa.Own
