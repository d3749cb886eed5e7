/- Decode of any bytes (layer 3). -/
import Derived.Test.YtamaemlhnkabcaaOwnD
import Derived.Deep.RegionHeld3
namespace Go.Proofs.Ytamaemlhnkabcaa.Own
open Go.RowKit Go.Proofs.Ytamaemlhnkabcaa.Crc Go.Proofs.Ytamaemlhnkabcaa.PWireRefuses Go.Proofs.YtamaemlhnkabcaaW.PrintWords Go.Proofs.YtamaemlhnkabcaaW.PrintLast Go.Proofs.YtamaemlhnkabcaaW.PrintMore
set_option linter.unusedVariables false
set_option linter.unusedSimpArgs false


theorem cut_cap {P : Program} (t e : TypeId) (kh km : IntKind) {i : TypeInfo} (ht : P.underlying t = some (.slice e)) (hi : P.info? e = some i) (A : Option Addr) (n c : Nat) (j : Int) (h0 : 0 ≤ j) (hc : j ≤ c) :
    ∀ W : World, (Instr.slice t (.slice A n c) none (some (.int kh j)) (some (.int km j))).run P W = .ok (.slice A j.toNat j.toNat) W := by
  intro W
  have hel : P.elem t = e := by simp [Program.elem, ht]
  have hu : P.underlying t = some (.slice (P.elem t)) := by rw [hel]; exact ht
  have ha : (A.map fun x => x.add 0) = A := by cases A <;> simp [Addr.add]
  rw [run_slice_hm W t A n c hu kh km j j h0 (by omega) hc, hel]
  simp [sizeOf, typeInfo, hi, sliced, Result.andThen, ha]
theorem add_add' (a : Addr) (i j : Nat) : (a.add i).add j = a.add (i + j) := by
  unfold Addr.add
  by_cases hi : i = 0 <;> by_cases hj : j = 0 <;> simp [hi, hj, Nat.add_assoc]
theorem reads_sub {W : World} {ad : Addr} {l m : List Int} (h : ReadsInt W .u8 (some ad) l.length l) (i n : Nat) (hn : i + n ≤ l.length) (hm : m = (l.drop i).take n) : ReadsInt W .u8 (some (ad.add i)) n m := by
  subst hm
  refine ⟨by rw [List.length_take, List.length_drop]; omega, by have := h.2.1; omega, fun hp => ⟨_, rfl, fun j hj => ?_⟩⟩
  obtain ⟨a', e, hc⟩ := h.2.2 (by omega)
  obtain rfl := Option.some.inj e
  rw [add_add', hc _ (by omega), List.getD_eq_getElem?_getD, List.getD_eq_getElem?_getD, List.getElem?_take_of_lt hj, List.getElem?_drop]
theorem reads_cell {W : World} {ad : Addr} {l : List Int} (h : ReadsInt W .u8 (some ad) l.length l) (k : Nat) (hk : k < l.length) {x : Int} (hx : l.getD k 0 = x) : W.cell? (ad.add k) = some (.int .u8 x) := by
  obtain ⟨a', e, hc⟩ := h.2.2 (by omega)
  obtain rfl := Option.some.inj e
  rw [hc k hk, hx]

/-- Two frames in the function's own variables, all zero. -/
def Two (w W : World) : Prop := At W w.heap.size Fr.zero ∧ At W (w.heap.size + 1) Fr.zero ∧ Below w.heap.size w W
theorem Two.new (w : World) : Two w ((w.alloc (.cells #[.int .u8 0, .int .u8 0, .int .u16 0, .int .u8 0, .int .u8 0, .int .u32 0] 25)).alloc (.cells #[.int .u8 0, .int .u8 0, .int .u16 0, .int .u8 0, .int .u8 0, .int .u32 0] 25)) :=
  ⟨blk_below (blk_new _ _) (below_alloc (Below.refl _ _) _), (by have := blk_new (w.alloc (.cells #[.int .u8 0, .int .u8 0, .int .u16 0, .int .u8 0, .int .u8 0, .int .u32 0] 25)) (.cells #[.int .u8 0, .int .u8 0, .int .u16 0, .int .u8 0, .int .u8 0, .int .u32 0] 25); rwa [show (w.alloc (.cells #[.int .u8 0, .int .u8 0, .int .u16 0, .int .u8 0, .int .u8 0, .int .u32 0] 25)).heap.size = w.heap.size + 1 by simp] at this : ((w.alloc (.cells #[.int .u8 0, .int .u8 0, .int .u16 0, .int .u8 0, .int .u8 0, .int .u32 0] 25)).alloc (.cells #[.int .u8 0, .int .u8 0, .int .u16 0, .int .u8 0, .int .u8 0, .int .u32 0] 25)).heap[w.heap.size + 1]? = some (.cells #[.int .u8 0, .int .u8 0, .int .u16 0, .int .u8 0, .int .u8 0, .int .u32 0] 25)), below_alloc (below_alloc (Below.refl _ _) _) _⟩
theorem Two.below {w W W1 : World} (h : Two w W) (hb : Below W.heap.size W W1) : Two w W1 := ⟨blk_below h.1 hb, blk_below h.2.1 hb, below_then h.2.2 h.2.2.size hb⟩
theorem Two.drew {w W : World} (h : Two w W) : Two w W.drew := h.below (Below.refl _ _).drew
theorem Two.reads {w W : World} {A : Option Addr} {l : List Int} (h : Two w W) (hr : ReadsInt w .u8 A l.length l) : ReadsInt W .u8 A l.length l := hr.below h.2.2
theorem At.free {W : World} {g : Nat} {f : Fr} (h : At W g f) (i : Nat) : W.frozen? ⟨g, i, none⟩ = false := blk_frozen h i
def Back (w : World) (f : Fr) (c : Int) (e : Ending) (w' : World) : Prop := e = .returned (.tuple #[f.val, .int .u16 c]) ∧ Below w.heap.size w w'

theorem Box.set6 {W : World} {g : Nat} {k' l' s' a' b' y' : Int} (h : Box W g k' l' s' a' b' y') (k l s a b y : Int) : Box ((((((W.setCell ⟨g, 0, none⟩ (.int .u8 k)).setCell ⟨g, 1, none⟩ (.int .u8 l)).setCell ⟨g, 2, none⟩ (.int .u16 s)).setCell ⟨g, 3, none⟩ (.int .u8 a)).setCell ⟨g, 4, none⟩ (.int .u8 b)).setCell ⟨g, 5, none⟩ (.int .u32 y)) g k l s a b y := by
  have h0 := blk_set h 0 (.int .u8 k)
  have h1 := blk_set h0 1 (.int .u8 l)
  have h2 := blk_set h1 2 (.int .u16 s)
  have h3 := blk_set h2 3 (.int .u8 a)
  have h4 := blk_set h3 4 (.int .u8 b)
  exact blk_set h4 5 (.int .u32 y)
theorem Box.far6 {W : World} {g q : Nat} {k' l' s' a' b' y' : Int} (h : Box W q k' l' s' a' b' y') (hne : q ≠ g) (k l s a b y : Int) : Box ((((((W.setCell ⟨g, 0, none⟩ (.int .u8 k)).setCell ⟨g, 1, none⟩ (.int .u8 l)).setCell ⟨g, 2, none⟩ (.int .u16 s)).setCell ⟨g, 3, none⟩ (.int .u8 a)).setCell ⟨g, 4, none⟩ (.int .u8 b)).setCell ⟨g, 5, none⟩ (.int .u32 y)) q k' l' s' a' b' y' :=
  blk_far (blk_far (blk_far (blk_far (blk_far (blk_far h hne _) hne _) hne _) hne _) hne _) hne _
theorem below6 {w W : World} {g : Nat} (h : Below w.heap.size w W) (hg : w.heap.size ≤ g) (k l s a b y : Int) : Below w.heap.size w ((((((W.setCell ⟨g, 0, none⟩ (.int .u8 k)).setCell ⟨g, 1, none⟩ (.int .u8 l)).setCell ⟨g, 2, none⟩ (.int .u16 s)).setCell ⟨g, 3, none⟩ (.int .u8 a)).setCell ⟨g, 4, none⟩ (.int .u8 b)).setCell ⟨g, 5, none⟩ (.int .u32 y)) :=
  below_set (below_set (below_set (below_set (below_set (below_set h hg) hg) hg) hg) hg) hg

theorem reads_first {W : World} {ad : Addr} {x : Int} {l : List Int} (h : ReadsInt W .u8 (some ad) (x :: l).length (x :: l)) : W.cell? ad = some (.int .u8 x) := by
  have := reads_cell h 0 (by simp) rfl
  simpa [Addr.add] using this
theorem reads_next {W : World} {ad : Addr} {l : List Int} (h : ReadsInt W .u8 (some ad) l.length l) (k : Nat) (hk : k + 1 < l.length) {x : Int} (hx : l.getD (k + 1) 0 = x) : W.cell? ⟨ad.block, ad.off + (k + 1), none⟩ = some (.int .u8 x) := by
  have := reads_cell h (k + 1) hk hx
  simpa [Addr.add] using this
theorem held8 {w W : World} {ad : Addr} {x0 x1 : Int} {l : List Int} (T : Two w W) (h : ReadsInt w .u8 (some ad) (x0 :: x1 :: l).length (x0 :: x1 :: l)) :
    Two w W ∧ W.cell? ad = some (.int .u8 x0) ∧ W.cell? ⟨ad.block, ad.off + 1, none⟩ = some (.int .u8 x1) ∧ W.frozen? ⟨w.heap.size + 1, 0, none⟩ = false ∧ W.frozen? ⟨w.heap.size + 1, 1, none⟩ = false ∧ W.frozen? ⟨w.heap.size + 1, 2, none⟩ = false ∧ W.frozen? ⟨w.heap.size + 1, 3, none⟩ = false ∧ W.frozen? ⟨w.heap.size + 1, 4, none⟩ = false ∧ W.frozen? ⟨w.heap.size + 1, 5, none⟩ = false :=
  ⟨T, reads_first (T.reads h), reads_next (T.reads h) 0 (by simp) rfl, T.2.1.free 0, T.2.1.free 1, T.2.1.free 2, T.2.1.free 3, T.2.1.free 4, T.2.1.free 5⟩
theorem kept8 {w W : World} {ad : Addr} {x0 x1 : Int} {m : List Int} (T : Two w W) (h : ReadsInt w .u8 (some ad) (x0 :: x1 :: m).length (x0 :: x1 :: m)) (k l s a b y : Int) :
    ((((((W.setCell ⟨w.heap.size + 1, 0, none⟩ (.int .u8 k)).setCell ⟨w.heap.size + 1, 1, none⟩ (.int .u8 l)).setCell ⟨w.heap.size + 1, 2, none⟩ (.int .u16 s)).setCell ⟨w.heap.size + 1, 3, none⟩ (.int .u8 a)).setCell ⟨w.heap.size + 1, 4, none⟩ (.int .u8 b)).setCell ⟨w.heap.size + 1, 5, none⟩ (.int .u32 y)).cell? ad = some (.int .u8 x0) ∧ ((((((W.setCell ⟨w.heap.size + 1, 0, none⟩ (.int .u8 k)).setCell ⟨w.heap.size + 1, 1, none⟩ (.int .u8 l)).setCell ⟨w.heap.size + 1, 2, none⟩ (.int .u16 s)).setCell ⟨w.heap.size + 1, 3, none⟩ (.int .u8 a)).setCell ⟨w.heap.size + 1, 4, none⟩ (.int .u8 b)).setCell ⟨w.heap.size + 1, 5, none⟩ (.int .u32 y)).cell? ⟨ad.block, ad.off + 1, none⟩ = some (.int .u8 x1) ∧ ((((((W.setCell ⟨w.heap.size + 1, 0, none⟩ (.int .u8 k)).setCell ⟨w.heap.size + 1, 1, none⟩ (.int .u8 l)).setCell ⟨w.heap.size + 1, 2, none⟩ (.int .u16 s)).setCell ⟨w.heap.size + 1, 3, none⟩ (.int .u8 a)).setCell ⟨w.heap.size + 1, 4, none⟩ (.int .u8 b)).setCell ⟨w.heap.size + 1, 5, none⟩ (.int .u32 y)).frozen? ⟨w.heap.size + 1, 0, none⟩ = false ∧ ((((((W.setCell ⟨w.heap.size + 1, 0, none⟩ (.int .u8 k)).setCell ⟨w.heap.size + 1, 1, none⟩ (.int .u8 l)).setCell ⟨w.heap.size + 1, 2, none⟩ (.int .u16 s)).setCell ⟨w.heap.size + 1, 3, none⟩ (.int .u8 a)).setCell ⟨w.heap.size + 1, 4, none⟩ (.int .u8 b)).setCell ⟨w.heap.size + 1, 5, none⟩ (.int .u32 y)).frozen? ⟨w.heap.size + 1, 1, none⟩ = false ∧ ((((((W.setCell ⟨w.heap.size + 1, 0, none⟩ (.int .u8 k)).setCell ⟨w.heap.size + 1, 1, none⟩ (.int .u8 l)).setCell ⟨w.heap.size + 1, 2, none⟩ (.int .u16 s)).setCell ⟨w.heap.size + 1, 3, none⟩ (.int .u8 a)).setCell ⟨w.heap.size + 1, 4, none⟩ (.int .u8 b)).setCell ⟨w.heap.size + 1, 5, none⟩ (.int .u32 y)).frozen? ⟨w.heap.size + 1, 2, none⟩ = false ∧ ((((((W.setCell ⟨w.heap.size + 1, 0, none⟩ (.int .u8 k)).setCell ⟨w.heap.size + 1, 1, none⟩ (.int .u8 l)).setCell ⟨w.heap.size + 1, 2, none⟩ (.int .u16 s)).setCell ⟨w.heap.size + 1, 3, none⟩ (.int .u8 a)).setCell ⟨w.heap.size + 1, 4, none⟩ (.int .u8 b)).setCell ⟨w.heap.size + 1, 5, none⟩ (.int .u32 y)).frozen? ⟨w.heap.size + 1, 3, none⟩ = false ∧ ((((((W.setCell ⟨w.heap.size + 1, 0, none⟩ (.int .u8 k)).setCell ⟨w.heap.size + 1, 1, none⟩ (.int .u8 l)).setCell ⟨w.heap.size + 1, 2, none⟩ (.int .u16 s)).setCell ⟨w.heap.size + 1, 3, none⟩ (.int .u8 a)).setCell ⟨w.heap.size + 1, 4, none⟩ (.int .u8 b)).setCell ⟨w.heap.size + 1, 5, none⟩ (.int .u32 y)).frozen? ⟨w.heap.size + 1, 4, none⟩ = false ∧ ((((((W.setCell ⟨w.heap.size + 1, 0, none⟩ (.int .u8 k)).setCell ⟨w.heap.size + 1, 1, none⟩ (.int .u8 l)).setCell ⟨w.heap.size + 1, 2, none⟩ (.int .u16 s)).setCell ⟨w.heap.size + 1, 3, none⟩ (.int .u8 a)).setCell ⟨w.heap.size + 1, 4, none⟩ (.int .u8 b)).setCell ⟨w.heap.size + 1, 5, none⟩ (.int .u32 y)).frozen? ⟨w.heap.size + 1, 5, none⟩ = false :=
  have hb := below6 T.2.2 (Nat.le_succ w.heap.size) k l s a b y
  have hx := Box.set6 T.2.1 k l s a b y
  ⟨reads_first (h.below hb), reads_next (h.below hb) 0 (by simp) rfl, blk_frozen hx 0, blk_frozen hx 1, blk_frozen hx 2, blk_frozen hx 3, blk_frozen hx 4, blk_frozen hx 5⟩
/-- The answer's frame is zero yet, the function's own is f. -/
def Pair (w W : World) (f : Fr) : Prop := At W w.heap.size Fr.zero ∧ At W (w.heap.size + 1) f ∧ Below w.heap.size w W
theorem Two.six {w W : World} (h : Two w W) (k l s a b y : Int) : Pair w ((((((W.setCell ⟨w.heap.size + 1, 0, none⟩ (.int .u8 k)).setCell ⟨w.heap.size + 1, 1, none⟩ (.int .u8 l)).setCell ⟨w.heap.size + 1, 2, none⟩ (.int .u16 s)).setCell ⟨w.heap.size + 1, 3, none⟩ (.int .u8 a)).setCell ⟨w.heap.size + 1, 4, none⟩ (.int .u8 b)).setCell ⟨w.heap.size + 1, 5, none⟩ (.int .u32 y)) ⟨k, l, s, a, b, y⟩ :=
  ⟨Box.far6 h.1 (by omega) k l s a b y, Box.set6 h.2.1 k l s a b y, below6 h.2.2 (Nat.le_succ w.heap.size) k l s a b y⟩
theorem Pair.below {w W W1 : World} {f : Fr} (h : Pair w W f) (hb : Below W.heap.size W W1) : Pair w W1 f := ⟨blk_below h.1 hb, blk_below h.2.1 hb, below_then h.2.2 h.2.2.size hb⟩
theorem Pair.drew {w W : World} {f : Fr} (h : Pair w W f) : Pair w W.drew f := h.below (Below.refl _ _).drew
theorem Pair.reads {w W : World} {f : Fr} {A : Option Addr} {l : List Int} (h : Pair w W f) (hr : ReadsInt w .u8 A l.length l) : ReadsInt W .u8 A l.length l := hr.below h.2.2
theorem Pair.three {w W : World} {k l s a' b' y' : Int} (h : Pair w W ⟨k, l, s, a', b', y'⟩) (a b y : Int) : Pair w (((W.setCell ⟨w.heap.size + 1, 3, none⟩ (.int .u8 a)).setCell ⟨w.heap.size + 1, 4, none⟩ (.int .u8 b)).setCell ⟨w.heap.size + 1, 5, none⟩ (.int .u32 y)) ⟨k, l, s, a, b, y⟩ :=
  ⟨blk_far (blk_far (blk_far h.1 (p := ⟨w.heap.size + 1, 3, none⟩) (by simp) _) (p := ⟨w.heap.size + 1, 4, none⟩) (by simp) _) (p := ⟨w.heap.size + 1, 5, none⟩) (by simp) _, by
    have h3 := blk_set h.2.1 3 (.int .u8 a)
    have h4 := blk_set h3 4 (.int .u8 b)
    exact blk_set h4 5 (.int .u32 y), below_set (below_set (below_set h.2.2 (Nat.le_succ w.heap.size)) (Nat.le_succ w.heap.size)) (Nat.le_succ w.heap.size)⟩
theorem held10 {w W : World} {ad : Addr} {l : List Int} {x4 x5 : Int} {cs : Array Value} (hb : Below w.heap.size w W) (hx : W.heap[w.heap.size + 1]? = some (.cells cs 25 (0, 0))) (h : ReadsInt w .u8 (some ad) l.length l) (hl : 12 ≤ l.length) (e4 : l.getD 4 0 = x4) (e5 : l.getD 5 0 = x5) : W.cell? ⟨ad.block, ad.off + 4, none⟩ = some (.int .u8 x4) ∧ W.cell? ⟨ad.block, ad.off + 5, none⟩ = some (.int .u8 x5) ∧ W.frozen? ⟨w.heap.size + 1, 3, none⟩ = false ∧ W.frozen? ⟨w.heap.size + 1, 4, none⟩ = false ∧ W.frozen? ⟨w.heap.size + 1, 5, none⟩ = false :=
  ⟨reads_next (h.below hb) 3 (by omega) e4, reads_next (h.below hb) 4 (by omega) e5, blk_frozen hx 3, blk_frozen hx 4, blk_frozen hx 5⟩
theorem held10a {w W : World} {ad : Addr} {l : List Int} {x4 x5 : Int} {f : Fr} (P : Pair w W f) (h : ReadsInt w .u8 (some ad) l.length l) (hl : 12 ≤ l.length) (e4 : l.getD 4 0 = x4) (e5 : l.getD 5 0 = x5) : W.cell? ⟨ad.block, ad.off + 4, none⟩ = some (.int .u8 x4) ∧ W.cell? ⟨ad.block, ad.off + 5, none⟩ = some (.int .u8 x5) ∧ W.frozen? ⟨w.heap.size + 1, 3, none⟩ = false ∧ W.frozen? ⟨w.heap.size + 1, 4, none⟩ = false ∧ W.frozen? ⟨w.heap.size + 1, 5, none⟩ = false :=
  held10 P.2.2 P.2.1 h hl e4 e5
theorem kept10a {w W : World} {ad : Addr} {l : List Int} {x4 x5 : Int} {f : Fr} (P : Pair w W f) (h : ReadsInt w .u8 (some ad) l.length l) (hl : 12 ≤ l.length) (e4 : l.getD 4 0 = x4) (e5 : l.getD 5 0 = x5) (a : Int) : (W.setCell ⟨w.heap.size + 1, 3, none⟩ (.int .u8 a)).cell? ⟨ad.block, ad.off + 4, none⟩ = some (.int .u8 x4) ∧ (W.setCell ⟨w.heap.size + 1, 3, none⟩ (.int .u8 a)).cell? ⟨ad.block, ad.off + 5, none⟩ = some (.int .u8 x5) ∧ (W.setCell ⟨w.heap.size + 1, 3, none⟩ (.int .u8 a)).frozen? ⟨w.heap.size + 1, 3, none⟩ = false ∧ (W.setCell ⟨w.heap.size + 1, 3, none⟩ (.int .u8 a)).frozen? ⟨w.heap.size + 1, 4, none⟩ = false ∧ (W.setCell ⟨w.heap.size + 1, 3, none⟩ (.int .u8 a)).frozen? ⟨w.heap.size + 1, 5, none⟩ = false :=
  held10 (below_set P.2.2 (Nat.le_succ w.heap.size)) (blk_set P.2.1 3 (.int .u8 a)) h hl e4 e5
theorem kept10b {w W : World} {ad : Addr} {l : List Int} {x4 x5 : Int} {f : Fr} (P : Pair w W f) (h : ReadsInt w .u8 (some ad) l.length l) (hl : 12 ≤ l.length) (e4 : l.getD 4 0 = x4) (e5 : l.getD 5 0 = x5) (a b : Int) : ((W.setCell ⟨w.heap.size + 1, 3, none⟩ (.int .u8 a)).setCell ⟨w.heap.size + 1, 4, none⟩ (.int .u8 b)).cell? ⟨ad.block, ad.off + 4, none⟩ = some (.int .u8 x4) ∧ ((W.setCell ⟨w.heap.size + 1, 3, none⟩ (.int .u8 a)).setCell ⟨w.heap.size + 1, 4, none⟩ (.int .u8 b)).cell? ⟨ad.block, ad.off + 5, none⟩ = some (.int .u8 x5) ∧ ((W.setCell ⟨w.heap.size + 1, 3, none⟩ (.int .u8 a)).setCell ⟨w.heap.size + 1, 4, none⟩ (.int .u8 b)).frozen? ⟨w.heap.size + 1, 3, none⟩ = false ∧ ((W.setCell ⟨w.heap.size + 1, 3, none⟩ (.int .u8 a)).setCell ⟨w.heap.size + 1, 4, none⟩ (.int .u8 b)).frozen? ⟨w.heap.size + 1, 4, none⟩ = false ∧ ((W.setCell ⟨w.heap.size + 1, 3, none⟩ (.int .u8 a)).setCell ⟨w.heap.size + 1, 4, none⟩ (.int .u8 b)).frozen? ⟨w.heap.size + 1, 5, none⟩ = false :=
  held10 (below_set (below_set P.2.2 (Nat.le_succ w.heap.size)) (Nat.le_succ w.heap.size)) (blk_set (blk_set P.2.1 3 (.int .u8 a)) 4 (.int .u8 b)) h hl e4 e5
theorem kept10c {w W : World} {ad : Addr} {l : List Int} {x4 x5 : Int} {f : Fr} (P : Pair w W f) (h : ReadsInt w .u8 (some ad) l.length l) (hl : 12 ≤ l.length) (e4 : l.getD 4 0 = x4) (e5 : l.getD 5 0 = x5) (a b y : Int) : (((W.setCell ⟨w.heap.size + 1, 3, none⟩ (.int .u8 a)).setCell ⟨w.heap.size + 1, 4, none⟩ (.int .u8 b)).setCell ⟨w.heap.size + 1, 5, none⟩ (.int .u32 y)).cell? ⟨ad.block, ad.off + 4, none⟩ = some (.int .u8 x4) ∧ (((W.setCell ⟨w.heap.size + 1, 3, none⟩ (.int .u8 a)).setCell ⟨w.heap.size + 1, 4, none⟩ (.int .u8 b)).setCell ⟨w.heap.size + 1, 5, none⟩ (.int .u32 y)).cell? ⟨ad.block, ad.off + 5, none⟩ = some (.int .u8 x5) ∧ (((W.setCell ⟨w.heap.size + 1, 3, none⟩ (.int .u8 a)).setCell ⟨w.heap.size + 1, 4, none⟩ (.int .u8 b)).setCell ⟨w.heap.size + 1, 5, none⟩ (.int .u32 y)).frozen? ⟨w.heap.size + 1, 3, none⟩ = false ∧ (((W.setCell ⟨w.heap.size + 1, 3, none⟩ (.int .u8 a)).setCell ⟨w.heap.size + 1, 4, none⟩ (.int .u8 b)).setCell ⟨w.heap.size + 1, 5, none⟩ (.int .u32 y)).frozen? ⟨w.heap.size + 1, 4, none⟩ = false ∧ (((W.setCell ⟨w.heap.size + 1, 3, none⟩ (.int .u8 a)).setCell ⟨w.heap.size + 1, 4, none⟩ (.int .u8 b)).setCell ⟨w.heap.size + 1, 5, none⟩ (.int .u32 y)).frozen? ⟨w.heap.size + 1, 5, none⟩ = false :=
  held10 (below_set (below_set (below_set P.2.2 (Nat.le_succ w.heap.size)) (Nat.le_succ w.heap.size)) (Nat.le_succ w.heap.size)) (blk_set (blk_set (blk_set P.2.1 3 (.int .u8 a)) 4 (.int .u8 b)) 5 (.int .u32 y)) h hl e4 e5
theorem infoE5 : ∃ i, Try.prog.info? 5 = some i ∧ i.size = 1 := by
  obtain ⟨i, hi, _, hz1, _⟩ := info_parts infoE
  exact ⟨i, hi, hz1⟩
set_option maxHeartbeats 4000000 in
set_option maxRecDepth 100000 in
theorem dec_other (A : Option Addr) (n c : Nat) (w : World) (h6 : ¬ n = 6) (h12 : ¬ n = 12) (hn : n ≤ 9223372036854775807) :
    Calls Try.prog 19 #[.slice A n c] w (Back w Fr.zero 30) := by
  have e6 : (((n : Int)) != 6) = true := bne_iff_ne.mpr (by omega)
  have e12 : (((n : Int)) != 12) = true := bne_iff_ne.mpr (by omega)
  go_enter Try.func19, Try.ntmps19
  go_wp2_with fail
  refine bodyPost_ret (ret_cell_tmp rfl _ _ w.heap.size 25 _ (0, 0) _ (by rfl) (blk_below (blk_new _ _) (below_alloc (Below.refl _ _) _)) Try.underlying25 rfl (by kernel_rfl)) rfl ?_
  exact ⟨rfl, below_alloc (below_alloc (Below.refl _ _) _) _⟩
set_option maxHeartbeats 4000000 in
set_option maxRecDepth 100000 in
theorem dec6_sum (ad : Addr) (c : Nat) (x0 x1 x2 x3 x4 x5 : Int) (w : World) (hr : ReadsInt w .u8 (some ad) 6 [x0, x1, x2, x3, x4, x5]) (hc : 6 ≤ c) (g0 : 0 ≤ x0 ∧ x0 ≤ 255) (g1 : 0 ≤ x1 ∧ x1 ≤ 255) (g2 : 0 ≤ x2 ∧ x2 ≤ 255) (g3 : 0 ≤ x3 ∧ x3 ≤ 255) (g4 : 0 ≤ x4 ∧ x4 ≤ 255) (g5 : 0 ≤ x5 ∧ x5 ≤ 255) (hs : ¬ crcI [x0, x1, x2, x3] = x4 * 256 + x5) : Calls Try.prog 19 #[.slice (some ad) 6 c] w (Back w Fr.zero 30) := by
  have H0 := Aside0.mk (show ReadsInt w .u8 (some ad) ([x0, x1, x2, x3, x4, x5] : List Int).length [x0, x1, x2, x3, x4, x5] from hr)
  have HO := Aside0.mk (show Oct [x0, x1, x2, x3, x4, x5] from Oct.cons g0.1 g0.2 (Oct.cons g1.1 g1.2 (Oct.cons g2.1 g2.2 (Oct.cons g3.1 g3.2 (Oct.cons g4.1 g4.2 (Oct.cons g5.1 g5.2 (Oct.nil)))))))
  have HM := Aside0.mk (show Oct [x0, x1, x2, x3] from Oct.cons g0.1 g0.2 (Oct.cons g1.1 g1.2 (Oct.cons g2.1 g2.2 (Oct.cons g3.1 g3.2 (Oct.nil)))))
  have HC := Aside0.mk hc
  have G0 := Aside0.mk g4
  have G1 := Aside0.mk g5
  obtain ⟨i5, hi5, hs5⟩ := infoE5
  have cA : ∀ W : World, (Instr.slice 27 (.slice (some ad) 6 c) none (some (.int .i64 4)) (some (.int .i64 4))).run Try.prog W = .ok (.slice (some ad) 4 4) W := fun W => cut_cap 27 5 .i64 .i64 Try.underlying27 hi5 _ _ _ 4 (by omega) (by omega) W
  have cB : ∀ W : World, (Instr.slice 27 (.slice (some ad) 6 c) (some (.int .i64 4)) none none).run Try.prog W = .ok (.slice (some (ad.add 4)) 2 (c - 4)) W := fun W => by
    rw [cut_from 27 5 .i64 Try.underlying27 hi5 1 hs5 (some ad) 6 c 4 (by omega) (by omega) W, if_neg (by omega)]; rfl
  have ES : (crcI [x0, x1, x2, x3] != x4 * 256 + x5) = true := bne_iff_ne.mpr hs
  clear hs
  have W1 : IntKind.i64.wrap (((6 : Nat) : Int) - 2) = 4 := by decide
  have W2 : IntKind.i64.wrap (6 - 2) = 4 := by decide
  have WC : IntKind.u32.wrap (crcI [x0, x1, x2, x3]) = crcI [x0, x1, x2, x3] := by rw [w32]; exact Int.emod_eq_of_lt (crcI_range HM.out).1 (by have := (crcI_range HM.out).2; omega)
  have W3 : IntKind.i64.wrap 4 = 4 := by decide
  have I1 : (4 : Int) ≤ (c : Int) := by omega
  have ER : ∀ x y : Int, (((crcI [x0, x1, x2, x3] : Int) : Int) != (x4 * 256 + x5)) = true ∨ True := fun _ _ => .inr trivial
  have CR := crcI_range HM.out
  clear hc hi5 hs5 hr ER
  go_enter Try.func19, Try.ntmps19
  go_wp2_with fail
  have T0 := Aside0.mk (Two.new w)
  generalize ((w.alloc (.cells #[.int .u8 0, .int .u8 0, .int .u16 0, .int .u8 0, .int .u8 0, .int .u32 0] 25)).alloc (.cells #[.int .u8 0, .int .u8 0, .int .u16 0, .int .u8 0, .int .u8 0, .int .u32 0] 25)) = w2 at T0 ⊢
  go_region_held3 (fun W => Two w W) (first | exact T0.out.drew | exact T0.out | assumption | exact Two.below (by assumption) hbs)
    (first | (go_at_call 23; refine (sum_calls (some ad) 4 [x0, x1, x2, x3] _ (reads_sub (Two.reads (by assumption) H0.out) 0 4 (by simp) rfl) HM.out).mono ?_; rintro e wn ⟨rfl, hbs⟩) | (go_at_call 25; refine (read2 (ad.add 4) (c - 4) x4 x5 _ (reads_sub (Two.reads (by assumption) H0.out) 4 2 (by simp) rfl) (by have := HC.out; omega) G0.out.1 G0.out.2 G1.out.1 G1.out.2).mono ?_; rintro e wn ⟨rfl, hbs⟩))
  rename_i hHeld
  have T3 := Aside0.mk hHeld
  clear hHeld
  obtain ⟨c0, c1, c2, c3, c4, c5⟩ := T3.out.1.cells
  obtain ⟨d0, d1, d2, d3, d4, d5⟩ := T3.out.2.1.cells
  have f0 := T3.out.1.free 0
  have f1 := T3.out.1.free 1
  have f2 := T3.out.1.free 2
  have f3 := T3.out.1.free 3
  have f4 := T3.out.1.free 4
  have f5 := T3.out.1.free 5
  go_wp2_with fail
  refine bodyPost_ret (ret_cell_tmp rfl _ _ w.heap.size 25 _ (0, 0) _ (by rfl) (Box.set6 T3.out.1 _ _ _ _ _ _) Try.underlying25 rfl (by kernel_rfl)) rfl ?_
  exact ⟨rfl, below6 T3.out.2.2 (Nat.le_refl _) _ _ _ _ _ _⟩
set_option maxHeartbeats 4000000 in
set_option maxRecDepth 100000 in
theorem dec6_kind (ad : Addr) (c : Nat) (x0 x1 x2 x3 x4 x5 : Int) (w : World) (hr : ReadsInt w .u8 (some ad) 6 [x0, x1, x2, x3, x4, x5]) (hc : 6 ≤ c) (g0 : 0 ≤ x0 ∧ x0 ≤ 255) (g1 : 0 ≤ x1 ∧ x1 ≤ 255) (g2 : 0 ≤ x2 ∧ x2 ≤ 255) (g3 : 0 ≤ x3 ∧ x3 ≤ 255) (g4 : 0 ≤ x4 ∧ x4 ≤ 255) (g5 : 0 ≤ x5 ∧ x5 ≤ 255) (hs : crcI [x0, x1, x2, x3] = x4 * 256 + x5) (hx : x0 = 1) : Calls Try.prog 19 #[.slice (some ad) 6 c] w (Back w Fr.zero 30) := by
  have H0 := Aside0.mk (show ReadsInt w .u8 (some ad) ([x0, x1, x2, x3, x4, x5] : List Int).length [x0, x1, x2, x3, x4, x5] from hr)
  have HO := Aside0.mk (show Oct [x0, x1, x2, x3, x4, x5] from Oct.cons g0.1 g0.2 (Oct.cons g1.1 g1.2 (Oct.cons g2.1 g2.2 (Oct.cons g3.1 g3.2 (Oct.cons g4.1 g4.2 (Oct.cons g5.1 g5.2 (Oct.nil)))))))
  have HM := Aside0.mk (show Oct [x0, x1, x2, x3] from Oct.cons g0.1 g0.2 (Oct.cons g1.1 g1.2 (Oct.cons g2.1 g2.2 (Oct.cons g3.1 g3.2 (Oct.nil)))))
  have HC := Aside0.mk hc
  have G0 := Aside0.mk g4
  have G1 := Aside0.mk g5
  obtain ⟨i5, hi5, hs5⟩ := infoE5
  have cA : ∀ W : World, (Instr.slice 27 (.slice (some ad) 6 c) none (some (.int .i64 4)) (some (.int .i64 4))).run Try.prog W = .ok (.slice (some ad) 4 4) W := fun W => cut_cap 27 5 .i64 .i64 Try.underlying27 hi5 _ _ _ 4 (by omega) (by omega) W
  have cB : ∀ W : World, (Instr.slice 27 (.slice (some ad) 6 c) (some (.int .i64 4)) none none).run Try.prog W = .ok (.slice (some (ad.add 4)) 2 (c - 4)) W := fun W => by
    rw [cut_from 27 5 .i64 Try.underlying27 hi5 1 hs5 (some ad) 6 c 4 (by omega) (by omega) W, if_neg (by omega)]; rfl
  have ES : (crcI [x0, x1, x2, x3] != x4 * 256 + x5) = false := bne_eq_false_iff_eq.mpr hs
  clear hs
  have EX : (x0 == 1) = true := beq_iff_eq.mpr hx
  clear hx
  have W1 : IntKind.i64.wrap (((6 : Nat) : Int) - 2) = 4 := by decide
  have W2 : IntKind.i64.wrap (6 - 2) = 4 := by decide
  have WC : IntKind.u32.wrap (crcI [x0, x1, x2, x3]) = crcI [x0, x1, x2, x3] := by rw [w32]; exact Int.emod_eq_of_lt (crcI_range HM.out).1 (by have := (crcI_range HM.out).2; omega)
  have W3 : IntKind.i64.wrap 4 = 4 := by decide
  have I1 : (4 : Int) ≤ (c : Int) := by omega
  have ER : ∀ x y : Int, (((crcI [x0, x1, x2, x3] : Int) : Int) != (x4 * 256 + x5)) = true ∨ True := fun _ _ => .inr trivial
  have CR := crcI_range HM.out
  clear hc hi5 hs5 hr ER
  go_enter Try.func19, Try.ntmps19
  go_wp2_with fail
  have T0 := Aside0.mk (Two.new w)
  generalize ((w.alloc (.cells #[.int .u8 0, .int .u8 0, .int .u16 0, .int .u8 0, .int .u8 0, .int .u32 0] 25)).alloc (.cells #[.int .u8 0, .int .u8 0, .int .u16 0, .int .u8 0, .int .u8 0, .int .u32 0] 25)) = w2 at T0 ⊢
  go_region_held3 (fun W => Two w W) (first | exact T0.out.drew | exact T0.out | assumption | exact Two.below (by assumption) hbs)
    (first | (go_at_call 23; refine (sum_calls (some ad) 4 [x0, x1, x2, x3] _ (reads_sub (Two.reads (by assumption) H0.out) 0 4 (by simp) rfl) HM.out).mono ?_; rintro e wn ⟨rfl, hbs⟩) | (go_at_call 25; refine (read2 (ad.add 4) (c - 4) x4 x5 _ (reads_sub (Two.reads (by assumption) H0.out) 4 2 (by simp) rfl) (by have := HC.out; omega) G0.out.1 G0.out.2 G1.out.1 G1.out.2).mono ?_; rintro e wn ⟨rfl, hbs⟩))
  rename_i hHeld
  have T3 := Aside0.mk hHeld
  clear hHeld
  obtain ⟨c0, c1, c2, c3, c4, c5⟩ := T3.out.1.cells
  obtain ⟨d0, d1, d2, d3, d4, d5⟩ := T3.out.2.1.cells
  have f0 := T3.out.1.free 0
  have f1 := T3.out.1.free 1
  have f2 := T3.out.1.free 2
  have f3 := T3.out.1.free 3
  have f4 := T3.out.1.free 4
  have f5 := T3.out.1.free 5
  have e0 := reads_first (Two.reads T3.out H0.out)
  go_wp2_with fail
  refine bodyPost_ret (ret_cell_tmp rfl _ _ w.heap.size 25 _ (0, 0) _ (by rfl) (Box.set6 T3.out.1 _ _ _ _ _ _) Try.underlying25 rfl (by kernel_rfl)) rfl ?_
  exact ⟨rfl, below6 T3.out.2.2 (Nat.le_refl _) _ _ _ _ _ _⟩
set_option maxHeartbeats 4000000 in
set_option maxRecDepth 100000 in
theorem dec12_sum (ad : Addr) (c : Nat) (x0 x1 x2 x3 x4 x5 x6 x7 x8 x9 x10 x11 : Int) (w : World) (hr : ReadsInt w .u8 (some ad) 12 [x0, x1, x2, x3, x4, x5, x6, x7, x8, x9, x10, x11]) (hc : 12 ≤ c) (g0 : 0 ≤ x0 ∧ x0 ≤ 255) (g1 : 0 ≤ x1 ∧ x1 ≤ 255) (g2 : 0 ≤ x2 ∧ x2 ≤ 255) (g3 : 0 ≤ x3 ∧ x3 ≤ 255) (g4 : 0 ≤ x4 ∧ x4 ≤ 255) (g5 : 0 ≤ x5 ∧ x5 ≤ 255) (g6 : 0 ≤ x6 ∧ x6 ≤ 255) (g7 : 0 ≤ x7 ∧ x7 ≤ 255) (g8 : 0 ≤ x8 ∧ x8 ≤ 255) (g9 : 0 ≤ x9 ∧ x9 ≤ 255) (g10 : 0 ≤ x10 ∧ x10 ≤ 255) (g11 : 0 ≤ x11 ∧ x11 ≤ 255) (hs : ¬ crcI [x0, x1, x2, x3, x4, x5, x6, x7, x8, x9] = x10 * 256 + x11) : Calls Try.prog 19 #[.slice (some ad) 12 c] w (Back w Fr.zero 30) := by
  have H0 := Aside0.mk (show ReadsInt w .u8 (some ad) ([x0, x1, x2, x3, x4, x5, x6, x7, x8, x9, x10, x11] : List Int).length [x0, x1, x2, x3, x4, x5, x6, x7, x8, x9, x10, x11] from hr)
  have HO := Aside0.mk (show Oct [x0, x1, x2, x3, x4, x5, x6, x7, x8, x9, x10, x11] from Oct.cons g0.1 g0.2 (Oct.cons g1.1 g1.2 (Oct.cons g2.1 g2.2 (Oct.cons g3.1 g3.2 (Oct.cons g4.1 g4.2 (Oct.cons g5.1 g5.2 (Oct.cons g6.1 g6.2 (Oct.cons g7.1 g7.2 (Oct.cons g8.1 g8.2 (Oct.cons g9.1 g9.2 (Oct.cons g10.1 g10.2 (Oct.cons g11.1 g11.2 (Oct.nil)))))))))))))
  have HM := Aside0.mk (show Oct [x0, x1, x2, x3, x4, x5, x6, x7, x8, x9] from Oct.cons g0.1 g0.2 (Oct.cons g1.1 g1.2 (Oct.cons g2.1 g2.2 (Oct.cons g3.1 g3.2 (Oct.cons g4.1 g4.2 (Oct.cons g5.1 g5.2 (Oct.cons g6.1 g6.2 (Oct.cons g7.1 g7.2 (Oct.cons g8.1 g8.2 (Oct.cons g9.1 g9.2 (Oct.nil)))))))))))
  have HC := Aside0.mk hc
  have G0 := Aside0.mk g10
  have G1 := Aside0.mk g11
  obtain ⟨i5, hi5, hs5⟩ := infoE5
  have cA : ∀ W : World, (Instr.slice 27 (.slice (some ad) 12 c) none (some (.int .i64 10)) (some (.int .i64 10))).run Try.prog W = .ok (.slice (some ad) 10 10) W := fun W => cut_cap 27 5 .i64 .i64 Try.underlying27 hi5 _ _ _ 10 (by omega) (by omega) W
  have cB : ∀ W : World, (Instr.slice 27 (.slice (some ad) 12 c) (some (.int .i64 10)) none none).run Try.prog W = .ok (.slice (some (ad.add 10)) 2 (c - 10)) W := fun W => by
    rw [cut_from 27 5 .i64 Try.underlying27 hi5 1 hs5 (some ad) 12 c 10 (by omega) (by omega) W, if_neg (by omega)]; rfl
  have ES : (crcI [x0, x1, x2, x3, x4, x5, x6, x7, x8, x9] != x10 * 256 + x11) = true := bne_iff_ne.mpr hs
  clear hs
  have W1 : IntKind.i64.wrap (((12 : Nat) : Int) - 2) = 10 := by decide
  have W2 : IntKind.i64.wrap (12 - 2) = 10 := by decide
  have WC : IntKind.u32.wrap (crcI [x0, x1, x2, x3, x4, x5, x6, x7, x8, x9]) = crcI [x0, x1, x2, x3, x4, x5, x6, x7, x8, x9] := by rw [w32]; exact Int.emod_eq_of_lt (crcI_range HM.out).1 (by have := (crcI_range HM.out).2; omega)
  have W3 : IntKind.i64.wrap 10 = 10 := by decide
  have I1 : (10 : Int) ≤ (c : Int) := by omega
  have ER : ∀ x y : Int, (((crcI [x0, x1, x2, x3, x4, x5, x6, x7, x8, x9] : Int) : Int) != (x10 * 256 + x11)) = true ∨ True := fun _ _ => .inr trivial
  have CR := crcI_range HM.out
  clear hc hi5 hs5 hr ER
  go_enter Try.func19, Try.ntmps19
  go_wp2_with fail
  have T0 := Aside0.mk (Two.new w)
  generalize ((w.alloc (.cells #[.int .u8 0, .int .u8 0, .int .u16 0, .int .u8 0, .int .u8 0, .int .u32 0] 25)).alloc (.cells #[.int .u8 0, .int .u8 0, .int .u16 0, .int .u8 0, .int .u8 0, .int .u32 0] 25)) = w2 at T0 ⊢
  go_region_held3 (fun W => Two w W) (first | exact T0.out.drew | exact T0.out | assumption | exact Two.below (by assumption) hbs)
    (first | (go_at_call 23; refine (sum_calls (some ad) 10 [x0, x1, x2, x3, x4, x5, x6, x7, x8, x9] _ (reads_sub (Two.reads (by assumption) H0.out) 0 10 (by simp) rfl) HM.out).mono ?_; rintro e wn ⟨rfl, hbs⟩) | (go_at_call 25; refine (read2 (ad.add 10) (c - 10) x10 x11 _ (reads_sub (Two.reads (by assumption) H0.out) 10 2 (by simp) rfl) (by have := HC.out; omega) G0.out.1 G0.out.2 G1.out.1 G1.out.2).mono ?_; rintro e wn ⟨rfl, hbs⟩))
  rename_i hHeld
  have T3 := Aside0.mk hHeld
  clear hHeld
  obtain ⟨c0, c1, c2, c3, c4, c5⟩ := T3.out.1.cells
  obtain ⟨d0, d1, d2, d3, d4, d5⟩ := T3.out.2.1.cells
  have f0 := T3.out.1.free 0
  have f1 := T3.out.1.free 1
  have f2 := T3.out.1.free 2
  have f3 := T3.out.1.free 3
  have f4 := T3.out.1.free 4
  have f5 := T3.out.1.free 5
  go_wp2_with fail
  refine bodyPost_ret (ret_cell_tmp rfl _ _ w.heap.size 25 _ (0, 0) _ (by rfl) (Box.set6 T3.out.1 _ _ _ _ _ _) Try.underlying25 rfl (by kernel_rfl)) rfl ?_
  exact ⟨rfl, below6 T3.out.2.2 (Nat.le_refl _) _ _ _ _ _ _⟩
set_option maxHeartbeats 4000000 in
set_option maxRecDepth 100000 in
theorem dec12_kind (ad : Addr) (c : Nat) (x0 x1 x2 x3 x4 x5 x6 x7 x8 x9 x10 x11 : Int) (w : World) (hr : ReadsInt w .u8 (some ad) 12 [x0, x1, x2, x3, x4, x5, x6, x7, x8, x9, x10, x11]) (hc : 12 ≤ c) (g0 : 0 ≤ x0 ∧ x0 ≤ 255) (g1 : 0 ≤ x1 ∧ x1 ≤ 255) (g2 : 0 ≤ x2 ∧ x2 ≤ 255) (g3 : 0 ≤ x3 ∧ x3 ≤ 255) (g4 : 0 ≤ x4 ∧ x4 ≤ 255) (g5 : 0 ≤ x5 ∧ x5 ≤ 255) (g6 : 0 ≤ x6 ∧ x6 ≤ 255) (g7 : 0 ≤ x7 ∧ x7 ≤ 255) (g8 : 0 ≤ x8 ∧ x8 ≤ 255) (g9 : 0 ≤ x9 ∧ x9 ≤ 255) (g10 : 0 ≤ x10 ∧ x10 ≤ 255) (g11 : 0 ≤ x11 ∧ x11 ≤ 255) (hs : crcI [x0, x1, x2, x3, x4, x5, x6, x7, x8, x9] = x10 * 256 + x11) (hx : ¬ x0 = 1) : Calls Try.prog 19 #[.slice (some ad) 12 c] w (Back w Fr.zero 30) := by
  have H0 := Aside0.mk (show ReadsInt w .u8 (some ad) ([x0, x1, x2, x3, x4, x5, x6, x7, x8, x9, x10, x11] : List Int).length [x0, x1, x2, x3, x4, x5, x6, x7, x8, x9, x10, x11] from hr)
  have HO := Aside0.mk (show Oct [x0, x1, x2, x3, x4, x5, x6, x7, x8, x9, x10, x11] from Oct.cons g0.1 g0.2 (Oct.cons g1.1 g1.2 (Oct.cons g2.1 g2.2 (Oct.cons g3.1 g3.2 (Oct.cons g4.1 g4.2 (Oct.cons g5.1 g5.2 (Oct.cons g6.1 g6.2 (Oct.cons g7.1 g7.2 (Oct.cons g8.1 g8.2 (Oct.cons g9.1 g9.2 (Oct.cons g10.1 g10.2 (Oct.cons g11.1 g11.2 (Oct.nil)))))))))))))
  have HM := Aside0.mk (show Oct [x0, x1, x2, x3, x4, x5, x6, x7, x8, x9] from Oct.cons g0.1 g0.2 (Oct.cons g1.1 g1.2 (Oct.cons g2.1 g2.2 (Oct.cons g3.1 g3.2 (Oct.cons g4.1 g4.2 (Oct.cons g5.1 g5.2 (Oct.cons g6.1 g6.2 (Oct.cons g7.1 g7.2 (Oct.cons g8.1 g8.2 (Oct.cons g9.1 g9.2 (Oct.nil)))))))))))
  have HC := Aside0.mk hc
  have G0 := Aside0.mk g10
  have G1 := Aside0.mk g11
  obtain ⟨i5, hi5, hs5⟩ := infoE5
  have cA : ∀ W : World, (Instr.slice 27 (.slice (some ad) 12 c) none (some (.int .i64 10)) (some (.int .i64 10))).run Try.prog W = .ok (.slice (some ad) 10 10) W := fun W => cut_cap 27 5 .i64 .i64 Try.underlying27 hi5 _ _ _ 10 (by omega) (by omega) W
  have cB : ∀ W : World, (Instr.slice 27 (.slice (some ad) 12 c) (some (.int .i64 10)) none none).run Try.prog W = .ok (.slice (some (ad.add 10)) 2 (c - 10)) W := fun W => by
    rw [cut_from 27 5 .i64 Try.underlying27 hi5 1 hs5 (some ad) 12 c 10 (by omega) (by omega) W, if_neg (by omega)]; rfl
  have ES : (crcI [x0, x1, x2, x3, x4, x5, x6, x7, x8, x9] != x10 * 256 + x11) = false := bne_eq_false_iff_eq.mpr hs
  clear hs
  have EX : (x0 == 1) = false := beq_eq_false_iff_ne.mpr hx
  clear hx
  have W1 : IntKind.i64.wrap (((12 : Nat) : Int) - 2) = 10 := by decide
  have W2 : IntKind.i64.wrap (12 - 2) = 10 := by decide
  have WC : IntKind.u32.wrap (crcI [x0, x1, x2, x3, x4, x5, x6, x7, x8, x9]) = crcI [x0, x1, x2, x3, x4, x5, x6, x7, x8, x9] := by rw [w32]; exact Int.emod_eq_of_lt (crcI_range HM.out).1 (by have := (crcI_range HM.out).2; omega)
  have W3 : IntKind.i64.wrap 10 = 10 := by decide
  have I1 : (10 : Int) ≤ (c : Int) := by omega
  have ER : ∀ x y : Int, (((crcI [x0, x1, x2, x3, x4, x5, x6, x7, x8, x9] : Int) : Int) != (x10 * 256 + x11)) = true ∨ True := fun _ _ => .inr trivial
  have CR := crcI_range HM.out
  clear hc hi5 hs5 hr ER
  go_enter Try.func19, Try.ntmps19
  go_wp2_with fail
  have T0 := Aside0.mk (Two.new w)
  generalize ((w.alloc (.cells #[.int .u8 0, .int .u8 0, .int .u16 0, .int .u8 0, .int .u8 0, .int .u32 0] 25)).alloc (.cells #[.int .u8 0, .int .u8 0, .int .u16 0, .int .u8 0, .int .u8 0, .int .u32 0] 25)) = w2 at T0 ⊢
  go_region_held3 (fun W => Two w W) (first | exact T0.out.drew | exact T0.out | assumption | exact Two.below (by assumption) hbs)
    (first | (go_at_call 23; refine (sum_calls (some ad) 10 [x0, x1, x2, x3, x4, x5, x6, x7, x8, x9] _ (reads_sub (Two.reads (by assumption) H0.out) 0 10 (by simp) rfl) HM.out).mono ?_; rintro e wn ⟨rfl, hbs⟩) | (go_at_call 25; refine (read2 (ad.add 10) (c - 10) x10 x11 _ (reads_sub (Two.reads (by assumption) H0.out) 10 2 (by simp) rfl) (by have := HC.out; omega) G0.out.1 G0.out.2 G1.out.1 G1.out.2).mono ?_; rintro e wn ⟨rfl, hbs⟩))
  rename_i hHeld
  have T3 := Aside0.mk hHeld
  clear hHeld
  obtain ⟨c0, c1, c2, c3, c4, c5⟩ := T3.out.1.cells
  obtain ⟨d0, d1, d2, d3, d4, d5⟩ := T3.out.2.1.cells
  have f0 := T3.out.1.free 0
  have f1 := T3.out.1.free 1
  have f2 := T3.out.1.free 2
  have f3 := T3.out.1.free 3
  have f4 := T3.out.1.free 4
  have f5 := T3.out.1.free 5
  have e0 := reads_first (Two.reads T3.out H0.out)
  go_wp2_with fail
  refine bodyPost_ret (ret_cell_tmp rfl _ _ w.heap.size 25 _ (0, 0) _ (by rfl) (Box.set6 T3.out.1 _ _ _ _ _ _) Try.underlying25 rfl (by kernel_rfl)) rfl ?_
  exact ⟨rfl, below6 T3.out.2.2 (Nat.le_refl _) _ _ _ _ _ _⟩
set_option maxHeartbeats 4000000 in
set_option maxRecDepth 100000 in
theorem dec6_ok (ad : Addr) (c : Nat) (x0 x1 x2 x3 x4 x5 : Int) (w : World) (hr : ReadsInt w .u8 (some ad) 6 [x0, x1, x2, x3, x4, x5]) (hc : 6 ≤ c) (g0 : 0 ≤ x0 ∧ x0 ≤ 255) (g1 : 0 ≤ x1 ∧ x1 ≤ 255) (g2 : 0 ≤ x2 ∧ x2 ≤ 255) (g3 : 0 ≤ x3 ∧ x3 ≤ 255) (g4 : 0 ≤ x4 ∧ x4 ≤ 255) (g5 : 0 ≤ x5 ∧ x5 ≤ 255) (hs : crcI [x0, x1, x2, x3] = x4 * 256 + x5) (hx : ¬ x0 = 1) (hf : Own.sound x0 x1 0 0 0 = true) : Calls Try.prog 19 #[.slice (some ad) 6 c] w (Back w (Fr.mk x0 x1 (x2 * 256 + x3) 0 0 0) 0) := by
  have H0 := Aside0.mk (show ReadsInt w .u8 (some ad) ([x0, x1, x2, x3, x4, x5] : List Int).length [x0, x1, x2, x3, x4, x5] from hr)
  have HO := Aside0.mk (show Oct [x0, x1, x2, x3, x4, x5] from Oct.cons g0.1 g0.2 (Oct.cons g1.1 g1.2 (Oct.cons g2.1 g2.2 (Oct.cons g3.1 g3.2 (Oct.cons g4.1 g4.2 (Oct.cons g5.1 g5.2 (Oct.nil)))))))
  have HM := Aside0.mk (show Oct [x0, x1, x2, x3] from Oct.cons g0.1 g0.2 (Oct.cons g1.1 g1.2 (Oct.cons g2.1 g2.2 (Oct.cons g3.1 g3.2 (Oct.nil)))))
  have HC := Aside0.mk hc
  have G0 := Aside0.mk g4
  have G1 := Aside0.mk g5
  obtain ⟨i5, hi5, hs5⟩ := infoE5
  have cA : ∀ W : World, (Instr.slice 27 (.slice (some ad) 6 c) none (some (.int .i64 4)) (some (.int .i64 4))).run Try.prog W = .ok (.slice (some ad) 4 4) W := fun W => cut_cap 27 5 .i64 .i64 Try.underlying27 hi5 _ _ _ 4 (by omega) (by omega) W
  have cB : ∀ W : World, (Instr.slice 27 (.slice (some ad) 6 c) (some (.int .i64 4)) none none).run Try.prog W = .ok (.slice (some (ad.add 4)) 2 (c - 4)) W := fun W => by
    rw [cut_from 27 5 .i64 Try.underlying27 hi5 1 hs5 (some ad) 6 c 4 (by omega) (by omega) W, if_neg (by omega)]; rfl
  have ES : (crcI [x0, x1, x2, x3] != x4 * 256 + x5) = false := bne_eq_false_iff_eq.mpr hs
  clear hs
  have EX : (x0 == 1) = false := beq_eq_false_iff_ne.mpr hx
  clear hx
  have SF := Aside0.mk hf
  clear hf
  have WS : IntKind.u16.wrap (x2 * 256 + x3) = x2 * 256 + x3 := by rw [w16]; omega
  have G2 := Aside0.mk g2
  have G3 := Aside0.mk g3
  have cC : ∀ W : World, (Instr.slice 27 (.slice (some ad) 6 c) (some (.int .i64 2)) (some (.int .i64 4)) none).run Try.prog W = .ok (.slice (some (ad.add 2)) 2 (c - 2)) W := fun W => by
    rw [cut_mid 27 5 .i64 .i64 Try.underlying27 hi5 1 hs5 (some ad) 6 c 2 4 (by omega) (by omega) (by omega) (by omega) W, if_neg (by omega)]; rfl
  have W1 : IntKind.i64.wrap (((6 : Nat) : Int) - 2) = 4 := by decide
  have W2 : IntKind.i64.wrap (6 - 2) = 4 := by decide
  have WC : IntKind.u32.wrap (crcI [x0, x1, x2, x3]) = crcI [x0, x1, x2, x3] := by rw [w32]; exact Int.emod_eq_of_lt (crcI_range HM.out).1 (by have := (crcI_range HM.out).2; omega)
  have W3 : IntKind.i64.wrap 4 = 4 := by decide
  have I1 : (4 : Int) ≤ (c : Int) := by omega
  have ER : ∀ x y : Int, (((crcI [x0, x1, x2, x3] : Int) : Int) != (x4 * 256 + x5)) = true ∨ True := fun _ _ => .inr trivial
  have CR := crcI_range HM.out
  clear hc hi5 hs5 hr ER
  go_enter Try.func19, Try.ntmps19
  go_wp2_with fail
  have T0 := Aside0.mk (Two.new w)
  generalize ((w.alloc (.cells #[.int .u8 0, .int .u8 0, .int .u16 0, .int .u8 0, .int .u8 0, .int .u32 0] 25)).alloc (.cells #[.int .u8 0, .int .u8 0, .int .u16 0, .int .u8 0, .int .u8 0, .int .u32 0] 25)) = w2 at T0 ⊢
  go_region_held3 (fun W => Two w W) (first | exact T0.out.drew | exact T0.out | assumption | exact Two.below (by assumption) hbs)
    (first | (go_at_call 23; refine (sum_calls (some ad) 4 [x0, x1, x2, x3] _ (reads_sub (Two.reads (by assumption) H0.out) 0 4 (by simp) rfl) HM.out).mono ?_; rintro e wn ⟨rfl, hbs⟩) | (go_at_call 25; refine (read2 (ad.add 4) (c - 4) x4 x5 _ (reads_sub (Two.reads (by assumption) H0.out) 4 2 (by simp) rfl) (by have := HC.out; omega) G0.out.1 G0.out.2 G1.out.1 G1.out.2).mono ?_; rintro e wn ⟨rfl, hbs⟩))
  rename_i hHeld
  have T3 := Aside0.mk hHeld
  clear hHeld
  have e0 := reads_first (Two.reads T3.out H0.out)
  go_wp2_with fail
  clear e0
  go_region_held3 (fun W => W.cell? ad = some (.int .u8 x0) ∧ W.cell? ⟨ad.block, ad.off + 1, none⟩ = some (.int .u8 x1) ∧ W.frozen? ⟨w.heap.size + 1, 0, none⟩ = false ∧ W.frozen? ⟨w.heap.size + 1, 1, none⟩ = false ∧ W.frozen? ⟨w.heap.size + 1, 2, none⟩ = false ∧ W.frozen? ⟨w.heap.size + 1, 3, none⟩ = false ∧ W.frozen? ⟨w.heap.size + 1, 4, none⟩ = false ∧ W.frozen? ⟨w.heap.size + 1, 5, none⟩ = false)
    (first | (with_reducible exact kept8 T8.out H0.out _ _ _ _ _ _) | (with_reducible exact (held8 T8.out H0.out).2) | (with_reducible exact (held8 T3.out.drew H0.out).2) | (with_reducible exact (held8 T3.out H0.out).2))
    (first | (go_at_call 25; refine (read2 (ad.add 2) (c - 2) x2 x3 _ (reads_sub (Two.reads T3.out.drew H0.out) 2 2 (by simp) rfl) (by have := HC.out; omega) G2.out.1 G2.out.2 G3.out.1 G3.out.2).mono ?_; rintro e w8 ⟨rfl, hb8⟩; have T8 := Aside0.mk (Two.below T3.out.drew hb8); clear hb8; obtain ⟨d0, d1, d2, d3, d4, d5⟩ := T8.out.2.1.cells))
  rename_i hHeld
  clear hHeld d0 d1 d2 d3 d4 d5
  have P9 := Aside0.mk (Two.six T8.out x0 x1 (x2 * 256 + x3) 0 0 0)
  generalize ((((((w8.setCell ⟨w.heap.size + 1, 0, none⟩ (.int .u8 x0)).setCell ⟨w.heap.size + 1, 1, none⟩ (.int .u8 x1)).setCell ⟨w.heap.size + 1, 2, none⟩ (.int .u16 (x2 * 256 + x3))).setCell ⟨w.heap.size + 1, 3, none⟩ (.int .u8 0)).setCell ⟨w.heap.size + 1, 4, none⟩ (.int .u8 0)).setCell ⟨w.heap.size + 1, 5, none⟩ (.int .u32 0)) = w9 at P9 ⊢
  obtain ⟨d0, d1, d2, d3, d4, d5⟩ := P9.out.2.1.cells
  go_wp2_with fail
  refine (sound_calls _ _ _ _ _ _ _).mono ?_
  clear d0 d1 d2 d3 d4 d5
  rw [SF.out]
  rintro e wA ⟨rfl, hb⟩
  have PA := Aside0.mk (P9.out.below hb)
  clear hb
  obtain ⟨c0, c1, c2, c3, c4, c5⟩ := PA.out.1.cells
  obtain ⟨d0, d1, d2, d3, d4, d5⟩ := PA.out.2.1.cells
  have f0 := PA.out.1.free 0
  have f1 := PA.out.1.free 1
  have f2 := PA.out.1.free 2
  have f3 := PA.out.1.free 3
  have f4 := PA.out.1.free 4
  have f5 := PA.out.1.free 5
  go_wp2_with fail
  refine bodyPost_ret (ret_cell_tmp rfl _ _ w.heap.size 25 _ (0, 0) _ (by rfl) (Box.set6 PA.out.1 _ _ _ _ _ _) Try.underlying25 rfl (by kernel_rfl)) rfl ?_
  exact ⟨rfl, below6 PA.out.2.2 (Nat.le_refl _) _ _ _ _ _ _⟩
set_option maxHeartbeats 4000000 in
set_option maxRecDepth 100000 in
theorem dec6_bad (ad : Addr) (c : Nat) (x0 x1 x2 x3 x4 x5 : Int) (w : World) (hr : ReadsInt w .u8 (some ad) 6 [x0, x1, x2, x3, x4, x5]) (hc : 6 ≤ c) (g0 : 0 ≤ x0 ∧ x0 ≤ 255) (g1 : 0 ≤ x1 ∧ x1 ≤ 255) (g2 : 0 ≤ x2 ∧ x2 ≤ 255) (g3 : 0 ≤ x3 ∧ x3 ≤ 255) (g4 : 0 ≤ x4 ∧ x4 ≤ 255) (g5 : 0 ≤ x5 ∧ x5 ≤ 255) (hs : crcI [x0, x1, x2, x3] = x4 * 256 + x5) (hx : ¬ x0 = 1) (hf : Own.sound x0 x1 0 0 0 = false) : Calls Try.prog 19 #[.slice (some ad) 6 c] w (Back w Fr.zero 30) := by
  have H0 := Aside0.mk (show ReadsInt w .u8 (some ad) ([x0, x1, x2, x3, x4, x5] : List Int).length [x0, x1, x2, x3, x4, x5] from hr)
  have HO := Aside0.mk (show Oct [x0, x1, x2, x3, x4, x5] from Oct.cons g0.1 g0.2 (Oct.cons g1.1 g1.2 (Oct.cons g2.1 g2.2 (Oct.cons g3.1 g3.2 (Oct.cons g4.1 g4.2 (Oct.cons g5.1 g5.2 (Oct.nil)))))))
  have HM := Aside0.mk (show Oct [x0, x1, x2, x3] from Oct.cons g0.1 g0.2 (Oct.cons g1.1 g1.2 (Oct.cons g2.1 g2.2 (Oct.cons g3.1 g3.2 (Oct.nil)))))
  have HC := Aside0.mk hc
  have G0 := Aside0.mk g4
  have G1 := Aside0.mk g5
  obtain ⟨i5, hi5, hs5⟩ := infoE5
  have cA : ∀ W : World, (Instr.slice 27 (.slice (some ad) 6 c) none (some (.int .i64 4)) (some (.int .i64 4))).run Try.prog W = .ok (.slice (some ad) 4 4) W := fun W => cut_cap 27 5 .i64 .i64 Try.underlying27 hi5 _ _ _ 4 (by omega) (by omega) W
  have cB : ∀ W : World, (Instr.slice 27 (.slice (some ad) 6 c) (some (.int .i64 4)) none none).run Try.prog W = .ok (.slice (some (ad.add 4)) 2 (c - 4)) W := fun W => by
    rw [cut_from 27 5 .i64 Try.underlying27 hi5 1 hs5 (some ad) 6 c 4 (by omega) (by omega) W, if_neg (by omega)]; rfl
  have ES : (crcI [x0, x1, x2, x3] != x4 * 256 + x5) = false := bne_eq_false_iff_eq.mpr hs
  clear hs
  have EX : (x0 == 1) = false := beq_eq_false_iff_ne.mpr hx
  clear hx
  have SF := Aside0.mk hf
  clear hf
  have WS : IntKind.u16.wrap (x2 * 256 + x3) = x2 * 256 + x3 := by rw [w16]; omega
  have G2 := Aside0.mk g2
  have G3 := Aside0.mk g3
  have cC : ∀ W : World, (Instr.slice 27 (.slice (some ad) 6 c) (some (.int .i64 2)) (some (.int .i64 4)) none).run Try.prog W = .ok (.slice (some (ad.add 2)) 2 (c - 2)) W := fun W => by
    rw [cut_mid 27 5 .i64 .i64 Try.underlying27 hi5 1 hs5 (some ad) 6 c 2 4 (by omega) (by omega) (by omega) (by omega) W, if_neg (by omega)]; rfl
  have W1 : IntKind.i64.wrap (((6 : Nat) : Int) - 2) = 4 := by decide
  have W2 : IntKind.i64.wrap (6 - 2) = 4 := by decide
  have WC : IntKind.u32.wrap (crcI [x0, x1, x2, x3]) = crcI [x0, x1, x2, x3] := by rw [w32]; exact Int.emod_eq_of_lt (crcI_range HM.out).1 (by have := (crcI_range HM.out).2; omega)
  have W3 : IntKind.i64.wrap 4 = 4 := by decide
  have I1 : (4 : Int) ≤ (c : Int) := by omega
  have ER : ∀ x y : Int, (((crcI [x0, x1, x2, x3] : Int) : Int) != (x4 * 256 + x5)) = true ∨ True := fun _ _ => .inr trivial
  have CR := crcI_range HM.out
  clear hc hi5 hs5 hr ER
  go_enter Try.func19, Try.ntmps19
  go_wp2_with fail
  have T0 := Aside0.mk (Two.new w)
  generalize ((w.alloc (.cells #[.int .u8 0, .int .u8 0, .int .u16 0, .int .u8 0, .int .u8 0, .int .u32 0] 25)).alloc (.cells #[.int .u8 0, .int .u8 0, .int .u16 0, .int .u8 0, .int .u8 0, .int .u32 0] 25)) = w2 at T0 ⊢
  go_region_held3 (fun W => Two w W) (first | exact T0.out.drew | exact T0.out | assumption | exact Two.below (by assumption) hbs)
    (first | (go_at_call 23; refine (sum_calls (some ad) 4 [x0, x1, x2, x3] _ (reads_sub (Two.reads (by assumption) H0.out) 0 4 (by simp) rfl) HM.out).mono ?_; rintro e wn ⟨rfl, hbs⟩) | (go_at_call 25; refine (read2 (ad.add 4) (c - 4) x4 x5 _ (reads_sub (Two.reads (by assumption) H0.out) 4 2 (by simp) rfl) (by have := HC.out; omega) G0.out.1 G0.out.2 G1.out.1 G1.out.2).mono ?_; rintro e wn ⟨rfl, hbs⟩))
  rename_i hHeld
  have T3 := Aside0.mk hHeld
  clear hHeld
  have e0 := reads_first (Two.reads T3.out H0.out)
  go_wp2_with fail
  clear e0
  go_region_held3 (fun W => W.cell? ad = some (.int .u8 x0) ∧ W.cell? ⟨ad.block, ad.off + 1, none⟩ = some (.int .u8 x1) ∧ W.frozen? ⟨w.heap.size + 1, 0, none⟩ = false ∧ W.frozen? ⟨w.heap.size + 1, 1, none⟩ = false ∧ W.frozen? ⟨w.heap.size + 1, 2, none⟩ = false ∧ W.frozen? ⟨w.heap.size + 1, 3, none⟩ = false ∧ W.frozen? ⟨w.heap.size + 1, 4, none⟩ = false ∧ W.frozen? ⟨w.heap.size + 1, 5, none⟩ = false)
    (first | (with_reducible exact kept8 T8.out H0.out _ _ _ _ _ _) | (with_reducible exact (held8 T8.out H0.out).2) | (with_reducible exact (held8 T3.out.drew H0.out).2) | (with_reducible exact (held8 T3.out H0.out).2))
    (first | (go_at_call 25; refine (read2 (ad.add 2) (c - 2) x2 x3 _ (reads_sub (Two.reads T3.out.drew H0.out) 2 2 (by simp) rfl) (by have := HC.out; omega) G2.out.1 G2.out.2 G3.out.1 G3.out.2).mono ?_; rintro e w8 ⟨rfl, hb8⟩; have T8 := Aside0.mk (Two.below T3.out.drew hb8); clear hb8; obtain ⟨d0, d1, d2, d3, d4, d5⟩ := T8.out.2.1.cells))
  rename_i hHeld
  clear hHeld d0 d1 d2 d3 d4 d5
  have P9 := Aside0.mk (Two.six T8.out x0 x1 (x2 * 256 + x3) 0 0 0)
  generalize ((((((w8.setCell ⟨w.heap.size + 1, 0, none⟩ (.int .u8 x0)).setCell ⟨w.heap.size + 1, 1, none⟩ (.int .u8 x1)).setCell ⟨w.heap.size + 1, 2, none⟩ (.int .u16 (x2 * 256 + x3))).setCell ⟨w.heap.size + 1, 3, none⟩ (.int .u8 0)).setCell ⟨w.heap.size + 1, 4, none⟩ (.int .u8 0)).setCell ⟨w.heap.size + 1, 5, none⟩ (.int .u32 0)) = w9 at P9 ⊢
  obtain ⟨d0, d1, d2, d3, d4, d5⟩ := P9.out.2.1.cells
  go_wp2_with fail
  refine (sound_calls _ _ _ _ _ _ _).mono ?_
  clear d0 d1 d2 d3 d4 d5
  rw [SF.out]
  rintro e wA ⟨rfl, hb⟩
  have PA := Aside0.mk (P9.out.below hb)
  clear hb
  obtain ⟨c0, c1, c2, c3, c4, c5⟩ := PA.out.1.cells
  obtain ⟨d0, d1, d2, d3, d4, d5⟩ := PA.out.2.1.cells
  have f0 := PA.out.1.free 0
  have f1 := PA.out.1.free 1
  have f2 := PA.out.1.free 2
  have f3 := PA.out.1.free 3
  have f4 := PA.out.1.free 4
  have f5 := PA.out.1.free 5
  go_wp2_with fail
  refine bodyPost_ret (ret_cell_tmp rfl _ _ w.heap.size 25 _ (0, 0) _ (by rfl) (Box.set6 PA.out.1 _ _ _ _ _ _) Try.underlying25 rfl (by kernel_rfl)) rfl ?_
  exact ⟨rfl, below6 PA.out.2.2 (Nat.le_refl _) _ _ _ _ _ _⟩
set_option maxHeartbeats 4000000 in
set_option maxRecDepth 100000 in
theorem dec12_ok (ad : Addr) (c : Nat) (x0 x1 x2 x3 x4 x5 x6 x7 x8 x9 x10 x11 : Int) (w : World) (hr : ReadsInt w .u8 (some ad) 12 [x0, x1, x2, x3, x4, x5, x6, x7, x8, x9, x10, x11]) (hc : 12 ≤ c) (g0 : 0 ≤ x0 ∧ x0 ≤ 255) (g1 : 0 ≤ x1 ∧ x1 ≤ 255) (g2 : 0 ≤ x2 ∧ x2 ≤ 255) (g3 : 0 ≤ x3 ∧ x3 ≤ 255) (g4 : 0 ≤ x4 ∧ x4 ≤ 255) (g5 : 0 ≤ x5 ∧ x5 ≤ 255) (g6 : 0 ≤ x6 ∧ x6 ≤ 255) (g7 : 0 ≤ x7 ∧ x7 ≤ 255) (g8 : 0 ≤ x8 ∧ x8 ≤ 255) (g9 : 0 ≤ x9 ∧ x9 ≤ 255) (g10 : 0 ≤ x10 ∧ x10 ≤ 255) (g11 : 0 ≤ x11 ∧ x11 ≤ 255) (hs : crcI [x0, x1, x2, x3, x4, x5, x6, x7, x8, x9] = x10 * 256 + x11) (hx : x0 = 1) (hf : Own.sound x0 x1 x4 x5 (x6 * 16777216 + x7 * 65536 + x8 * 256 + x9) = true) : Calls Try.prog 19 #[.slice (some ad) 12 c] w (Back w (Fr.mk x0 x1 (x2 * 256 + x3) x4 x5 (x6 * 16777216 + x7 * 65536 + x8 * 256 + x9)) 0) := by
  have H0 := Aside0.mk (show ReadsInt w .u8 (some ad) ([x0, x1, x2, x3, x4, x5, x6, x7, x8, x9, x10, x11] : List Int).length [x0, x1, x2, x3, x4, x5, x6, x7, x8, x9, x10, x11] from hr)
  have HO := Aside0.mk (show Oct [x0, x1, x2, x3, x4, x5, x6, x7, x8, x9, x10, x11] from Oct.cons g0.1 g0.2 (Oct.cons g1.1 g1.2 (Oct.cons g2.1 g2.2 (Oct.cons g3.1 g3.2 (Oct.cons g4.1 g4.2 (Oct.cons g5.1 g5.2 (Oct.cons g6.1 g6.2 (Oct.cons g7.1 g7.2 (Oct.cons g8.1 g8.2 (Oct.cons g9.1 g9.2 (Oct.cons g10.1 g10.2 (Oct.cons g11.1 g11.2 (Oct.nil)))))))))))))
  have HM := Aside0.mk (show Oct [x0, x1, x2, x3, x4, x5, x6, x7, x8, x9] from Oct.cons g0.1 g0.2 (Oct.cons g1.1 g1.2 (Oct.cons g2.1 g2.2 (Oct.cons g3.1 g3.2 (Oct.cons g4.1 g4.2 (Oct.cons g5.1 g5.2 (Oct.cons g6.1 g6.2 (Oct.cons g7.1 g7.2 (Oct.cons g8.1 g8.2 (Oct.cons g9.1 g9.2 (Oct.nil)))))))))))
  have HC := Aside0.mk hc
  have G0 := Aside0.mk g10
  have G1 := Aside0.mk g11
  obtain ⟨i5, hi5, hs5⟩ := infoE5
  have cA : ∀ W : World, (Instr.slice 27 (.slice (some ad) 12 c) none (some (.int .i64 10)) (some (.int .i64 10))).run Try.prog W = .ok (.slice (some ad) 10 10) W := fun W => cut_cap 27 5 .i64 .i64 Try.underlying27 hi5 _ _ _ 10 (by omega) (by omega) W
  have cB : ∀ W : World, (Instr.slice 27 (.slice (some ad) 12 c) (some (.int .i64 10)) none none).run Try.prog W = .ok (.slice (some (ad.add 10)) 2 (c - 10)) W := fun W => by
    rw [cut_from 27 5 .i64 Try.underlying27 hi5 1 hs5 (some ad) 12 c 10 (by omega) (by omega) W, if_neg (by omega)]; rfl
  have ES : (crcI [x0, x1, x2, x3, x4, x5, x6, x7, x8, x9] != x10 * 256 + x11) = false := bne_eq_false_iff_eq.mpr hs
  clear hs
  have EX : (x0 == 1) = true := beq_iff_eq.mpr hx
  clear hx
  have SF := Aside0.mk hf
  clear hf
  have WS : IntKind.u16.wrap (x2 * 256 + x3) = x2 * 256 + x3 := by rw [w16]; omega
  have G2 := Aside0.mk g2
  have G3 := Aside0.mk g3
  have cC : ∀ W : World, (Instr.slice 27 (.slice (some ad) 12 c) (some (.int .i64 2)) (some (.int .i64 4)) none).run Try.prog W = .ok (.slice (some (ad.add 2)) 2 (c - 2)) W := fun W => by
    rw [cut_mid 27 5 .i64 .i64 Try.underlying27 hi5 1 hs5 (some ad) 12 c 2 4 (by omega) (by omega) (by omega) (by omega) W, if_neg (by omega)]; rfl
  have cD : ∀ W : World, (Instr.slice 27 (.slice (some ad) 12 c) (some (.int .i64 6)) (some (.int .i64 10)) none).run Try.prog W = .ok (.slice (some (ad.add 6)) 4 (c - 6)) W := fun W => by
    rw [cut_mid 27 5 .i64 .i64 Try.underlying27 hi5 1 hs5 (some ad) 12 c 6 10 (by omega) (by omega) (by omega) (by omega) W, if_neg (by omega)]; rfl
  have HL := Aside0.mk (show 12 ≤ ([x0, x1, x2, x3, x4, x5, x6, x7, x8, x9, x10, x11] : List Int).length by simp)
  have E4 := Aside0.mk (show ([x0, x1, x2, x3, x4, x5, x6, x7, x8, x9, x10, x11] : List Int).getD 4 0 = x4 from rfl)
  have E5 := Aside0.mk (show ([x0, x1, x2, x3, x4, x5, x6, x7, x8, x9, x10, x11] : List Int).getD 5 0 = x5 from rfl)
  have G6 := Aside0.mk g6
  have G7 := Aside0.mk g7
  have G8 := Aside0.mk g8
  have G9 := Aside0.mk g9
  have W1 : IntKind.i64.wrap (((12 : Nat) : Int) - 2) = 10 := by decide
  have W2 : IntKind.i64.wrap (12 - 2) = 10 := by decide
  have WC : IntKind.u32.wrap (crcI [x0, x1, x2, x3, x4, x5, x6, x7, x8, x9]) = crcI [x0, x1, x2, x3, x4, x5, x6, x7, x8, x9] := by rw [w32]; exact Int.emod_eq_of_lt (crcI_range HM.out).1 (by have := (crcI_range HM.out).2; omega)
  have W3 : IntKind.i64.wrap 10 = 10 := by decide
  have I1 : (10 : Int) ≤ (c : Int) := by omega
  have ER : ∀ x y : Int, (((crcI [x0, x1, x2, x3, x4, x5, x6, x7, x8, x9] : Int) : Int) != (x10 * 256 + x11)) = true ∨ True := fun _ _ => .inr trivial
  have CR := crcI_range HM.out
  clear hc hi5 hs5 hr ER
  go_enter Try.func19, Try.ntmps19
  go_wp2_with fail
  have T0 := Aside0.mk (Two.new w)
  generalize ((w.alloc (.cells #[.int .u8 0, .int .u8 0, .int .u16 0, .int .u8 0, .int .u8 0, .int .u32 0] 25)).alloc (.cells #[.int .u8 0, .int .u8 0, .int .u16 0, .int .u8 0, .int .u8 0, .int .u32 0] 25)) = w2 at T0 ⊢
  go_region_held3 (fun W => Two w W) (first | exact T0.out.drew | exact T0.out | assumption | exact Two.below (by assumption) hbs)
    (first | (go_at_call 23; refine (sum_calls (some ad) 10 [x0, x1, x2, x3, x4, x5, x6, x7, x8, x9] _ (reads_sub (Two.reads (by assumption) H0.out) 0 10 (by simp) rfl) HM.out).mono ?_; rintro e wn ⟨rfl, hbs⟩) | (go_at_call 25; refine (read2 (ad.add 10) (c - 10) x10 x11 _ (reads_sub (Two.reads (by assumption) H0.out) 10 2 (by simp) rfl) (by have := HC.out; omega) G0.out.1 G0.out.2 G1.out.1 G1.out.2).mono ?_; rintro e wn ⟨rfl, hbs⟩))
  rename_i hHeld
  have T3 := Aside0.mk hHeld
  clear hHeld
  have e0 := reads_first (Two.reads T3.out H0.out)
  go_wp2_with fail
  clear e0
  go_region_held3 (fun W => W.cell? ad = some (.int .u8 x0) ∧ W.cell? ⟨ad.block, ad.off + 1, none⟩ = some (.int .u8 x1) ∧ W.frozen? ⟨w.heap.size + 1, 0, none⟩ = false ∧ W.frozen? ⟨w.heap.size + 1, 1, none⟩ = false ∧ W.frozen? ⟨w.heap.size + 1, 2, none⟩ = false ∧ W.frozen? ⟨w.heap.size + 1, 3, none⟩ = false ∧ W.frozen? ⟨w.heap.size + 1, 4, none⟩ = false ∧ W.frozen? ⟨w.heap.size + 1, 5, none⟩ = false)
    (first | (with_reducible exact kept8 T8.out H0.out _ _ _ _ _ _) | (with_reducible exact (held8 T8.out H0.out).2) | (with_reducible exact (held8 T3.out.drew H0.out).2) | (with_reducible exact (held8 T3.out H0.out).2))
    (first | (go_at_call 25; refine (read2 (ad.add 2) (c - 2) x2 x3 _ (reads_sub (Two.reads T3.out.drew H0.out) 2 2 (by simp) rfl) (by have := HC.out; omega) G2.out.1 G2.out.2 G3.out.1 G3.out.2).mono ?_; rintro e w8 ⟨rfl, hb8⟩; have T8 := Aside0.mk (Two.below T3.out.drew hb8); clear hb8; obtain ⟨d0, d1, d2, d3, d4, d5⟩ := T8.out.2.1.cells))
  rename_i hHeld
  clear hHeld d0 d1 d2 d3 d4 d5
  have P9 := Aside0.mk (Two.six T8.out x0 x1 (x2 * 256 + x3) 0 0 0)
  generalize ((((((w8.setCell ⟨w.heap.size + 1, 0, none⟩ (.int .u8 x0)).setCell ⟨w.heap.size + 1, 1, none⟩ (.int .u8 x1)).setCell ⟨w.heap.size + 1, 2, none⟩ (.int .u16 (x2 * 256 + x3))).setCell ⟨w.heap.size + 1, 3, none⟩ (.int .u8 0)).setCell ⟨w.heap.size + 1, 4, none⟩ (.int .u8 0)).setCell ⟨w.heap.size + 1, 5, none⟩ (.int .u32 0)) = w9 at P9 ⊢
  go_wp2_with fail
  go_region_held3 (fun W => W.cell? ⟨ad.block, ad.off + 4, none⟩ = some (.int .u8 x4) ∧ W.cell? ⟨ad.block, ad.off + 5, none⟩ = some (.int .u8 x5) ∧ W.frozen? ⟨w.heap.size + 1, 3, none⟩ = false ∧ W.frozen? ⟨w.heap.size + 1, 4, none⟩ = false ∧ W.frozen? ⟨w.heap.size + 1, 5, none⟩ = false)
    (first | (with_reducible exact kept10c P10.out H0.out HL.out E4.out E5.out _ _ _) | (with_reducible exact kept10b P10.out H0.out HL.out E4.out E5.out _ _) | (with_reducible exact kept10a P10.out H0.out HL.out E4.out E5.out _) | (with_reducible exact held10a P10.out H0.out HL.out E4.out E5.out) | (with_reducible exact held10a P9.out.drew H0.out HL.out E4.out E5.out) | (with_reducible exact held10a P9.out H0.out HL.out E4.out E5.out))
    (first | (go_at_call 25; refine (read4 (ad.add 6) (c - 6) x6 x7 x8 x9 _ (reads_sub (Pair.reads P9.out.drew H0.out) 6 4 (by simp) rfl) (by have := HC.out; omega) G6.out.1 G6.out.2 G7.out.1 G7.out.2 G8.out.1 G8.out.2 G9.out.1 G9.out.2).mono ?_; rintro e w10 ⟨rfl, hb8⟩; have P10 := Aside0.mk (Pair.below P9.out.drew hb8); clear hb8; obtain ⟨d0, d1, d2, d3, d4, d5⟩ := P10.out.2.1.cells))
  rename_i hHeld
  clear hHeld d0 d1 d2 d3 d4 d5 P9
  have P9 := Aside0.mk (Pair.three P10.out x4 x5 (x6 * 16777216 + x7 * 65536 + x8 * 256 + x9))
  generalize (((w10.setCell ⟨w.heap.size + 1, 3, none⟩ (.int .u8 x4)).setCell ⟨w.heap.size + 1, 4, none⟩ (.int .u8 x5)).setCell ⟨w.heap.size + 1, 5, none⟩ (.int .u32 (x6 * 16777216 + x7 * 65536 + x8 * 256 + x9))) = w9 at P9 ⊢
  obtain ⟨d0, d1, d2, d3, d4, d5⟩ := P9.out.2.1.cells
  go_wp2_with fail
  refine (sound_calls _ _ _ _ _ _ _).mono ?_
  clear d0 d1 d2 d3 d4 d5
  rw [SF.out]
  rintro e wA ⟨rfl, hb⟩
  have PA := Aside0.mk (P9.out.below hb)
  clear hb
  obtain ⟨c0, c1, c2, c3, c4, c5⟩ := PA.out.1.cells
  obtain ⟨d0, d1, d2, d3, d4, d5⟩ := PA.out.2.1.cells
  have f0 := PA.out.1.free 0
  have f1 := PA.out.1.free 1
  have f2 := PA.out.1.free 2
  have f3 := PA.out.1.free 3
  have f4 := PA.out.1.free 4
  have f5 := PA.out.1.free 5
  go_wp2_with fail
  refine bodyPost_ret (ret_cell_tmp rfl _ _ w.heap.size 25 _ (0, 0) _ (by rfl) (Box.set6 PA.out.1 _ _ _ _ _ _) Try.underlying25 rfl (by kernel_rfl)) rfl ?_
  exact ⟨rfl, below6 PA.out.2.2 (Nat.le_refl _) _ _ _ _ _ _⟩
set_option maxHeartbeats 4000000 in
set_option maxRecDepth 100000 in
theorem dec12_bad (ad : Addr) (c : Nat) (x0 x1 x2 x3 x4 x5 x6 x7 x8 x9 x10 x11 : Int) (w : World) (hr : ReadsInt w .u8 (some ad) 12 [x0, x1, x2, x3, x4, x5, x6, x7, x8, x9, x10, x11]) (hc : 12 ≤ c) (g0 : 0 ≤ x0 ∧ x0 ≤ 255) (g1 : 0 ≤ x1 ∧ x1 ≤ 255) (g2 : 0 ≤ x2 ∧ x2 ≤ 255) (g3 : 0 ≤ x3 ∧ x3 ≤ 255) (g4 : 0 ≤ x4 ∧ x4 ≤ 255) (g5 : 0 ≤ x5 ∧ x5 ≤ 255) (g6 : 0 ≤ x6 ∧ x6 ≤ 255) (g7 : 0 ≤ x7 ∧ x7 ≤ 255) (g8 : 0 ≤ x8 ∧ x8 ≤ 255) (g9 : 0 ≤ x9 ∧ x9 ≤ 255) (g10 : 0 ≤ x10 ∧ x10 ≤ 255) (g11 : 0 ≤ x11 ∧ x11 ≤ 255) (hs : crcI [x0, x1, x2, x3, x4, x5, x6, x7, x8, x9] = x10 * 256 + x11) (hx : x0 = 1) (hf : Own.sound x0 x1 x4 x5 (x6 * 16777216 + x7 * 65536 + x8 * 256 + x9) = false) : Calls Try.prog 19 #[.slice (some ad) 12 c] w (Back w Fr.zero 30) := by
  have H0 := Aside0.mk (show ReadsInt w .u8 (some ad) ([x0, x1, x2, x3, x4, x5, x6, x7, x8, x9, x10, x11] : List Int).length [x0, x1, x2, x3, x4, x5, x6, x7, x8, x9, x10, x11] from hr)
  have HO := Aside0.mk (show Oct [x0, x1, x2, x3, x4, x5, x6, x7, x8, x9, x10, x11] from Oct.cons g0.1 g0.2 (Oct.cons g1.1 g1.2 (Oct.cons g2.1 g2.2 (Oct.cons g3.1 g3.2 (Oct.cons g4.1 g4.2 (Oct.cons g5.1 g5.2 (Oct.cons g6.1 g6.2 (Oct.cons g7.1 g7.2 (Oct.cons g8.1 g8.2 (Oct.cons g9.1 g9.2 (Oct.cons g10.1 g10.2 (Oct.cons g11.1 g11.2 (Oct.nil)))))))))))))
  have HM := Aside0.mk (show Oct [x0, x1, x2, x3, x4, x5, x6, x7, x8, x9] from Oct.cons g0.1 g0.2 (Oct.cons g1.1 g1.2 (Oct.cons g2.1 g2.2 (Oct.cons g3.1 g3.2 (Oct.cons g4.1 g4.2 (Oct.cons g5.1 g5.2 (Oct.cons g6.1 g6.2 (Oct.cons g7.1 g7.2 (Oct.cons g8.1 g8.2 (Oct.cons g9.1 g9.2 (Oct.nil)))))))))))
  have HC := Aside0.mk hc
  have G0 := Aside0.mk g10
  have G1 := Aside0.mk g11
  obtain ⟨i5, hi5, hs5⟩ := infoE5
  have cA : ∀ W : World, (Instr.slice 27 (.slice (some ad) 12 c) none (some (.int .i64 10)) (some (.int .i64 10))).run Try.prog W = .ok (.slice (some ad) 10 10) W := fun W => cut_cap 27 5 .i64 .i64 Try.underlying27 hi5 _ _ _ 10 (by omega) (by omega) W
  have cB : ∀ W : World, (Instr.slice 27 (.slice (some ad) 12 c) (some (.int .i64 10)) none none).run Try.prog W = .ok (.slice (some (ad.add 10)) 2 (c - 10)) W := fun W => by
    rw [cut_from 27 5 .i64 Try.underlying27 hi5 1 hs5 (some ad) 12 c 10 (by omega) (by omega) W, if_neg (by omega)]; rfl
  have ES : (crcI [x0, x1, x2, x3, x4, x5, x6, x7, x8, x9] != x10 * 256 + x11) = false := bne_eq_false_iff_eq.mpr hs
  clear hs
  have EX : (x0 == 1) = true := beq_iff_eq.mpr hx
  clear hx
  have SF := Aside0.mk hf
  clear hf
  have WS : IntKind.u16.wrap (x2 * 256 + x3) = x2 * 256 + x3 := by rw [w16]; omega
  have G2 := Aside0.mk g2
  have G3 := Aside0.mk g3
  have cC : ∀ W : World, (Instr.slice 27 (.slice (some ad) 12 c) (some (.int .i64 2)) (some (.int .i64 4)) none).run Try.prog W = .ok (.slice (some (ad.add 2)) 2 (c - 2)) W := fun W => by
    rw [cut_mid 27 5 .i64 .i64 Try.underlying27 hi5 1 hs5 (some ad) 12 c 2 4 (by omega) (by omega) (by omega) (by omega) W, if_neg (by omega)]; rfl
  have cD : ∀ W : World, (Instr.slice 27 (.slice (some ad) 12 c) (some (.int .i64 6)) (some (.int .i64 10)) none).run Try.prog W = .ok (.slice (some (ad.add 6)) 4 (c - 6)) W := fun W => by
    rw [cut_mid 27 5 .i64 .i64 Try.underlying27 hi5 1 hs5 (some ad) 12 c 6 10 (by omega) (by omega) (by omega) (by omega) W, if_neg (by omega)]; rfl
  have HL := Aside0.mk (show 12 ≤ ([x0, x1, x2, x3, x4, x5, x6, x7, x8, x9, x10, x11] : List Int).length by simp)
  have E4 := Aside0.mk (show ([x0, x1, x2, x3, x4, x5, x6, x7, x8, x9, x10, x11] : List Int).getD 4 0 = x4 from rfl)
  have E5 := Aside0.mk (show ([x0, x1, x2, x3, x4, x5, x6, x7, x8, x9, x10, x11] : List Int).getD 5 0 = x5 from rfl)
  have G6 := Aside0.mk g6
  have G7 := Aside0.mk g7
  have G8 := Aside0.mk g8
  have G9 := Aside0.mk g9
  have W1 : IntKind.i64.wrap (((12 : Nat) : Int) - 2) = 10 := by decide
  have W2 : IntKind.i64.wrap (12 - 2) = 10 := by decide
  have WC : IntKind.u32.wrap (crcI [x0, x1, x2, x3, x4, x5, x6, x7, x8, x9]) = crcI [x0, x1, x2, x3, x4, x5, x6, x7, x8, x9] := by rw [w32]; exact Int.emod_eq_of_lt (crcI_range HM.out).1 (by have := (crcI_range HM.out).2; omega)
  have W3 : IntKind.i64.wrap 10 = 10 := by decide
  have I1 : (10 : Int) ≤ (c : Int) := by omega
  have ER : ∀ x y : Int, (((crcI [x0, x1, x2, x3, x4, x5, x6, x7, x8, x9] : Int) : Int) != (x10 * 256 + x11)) = true ∨ True := fun _ _ => .inr trivial
  have CR := crcI_range HM.out
  clear hc hi5 hs5 hr ER
  go_enter Try.func19, Try.ntmps19
  go_wp2_with fail
  have T0 := Aside0.mk (Two.new w)
  generalize ((w.alloc (.cells #[.int .u8 0, .int .u8 0, .int .u16 0, .int .u8 0, .int .u8 0, .int .u32 0] 25)).alloc (.cells #[.int .u8 0, .int .u8 0, .int .u16 0, .int .u8 0, .int .u8 0, .int .u32 0] 25)) = w2 at T0 ⊢
  go_region_held3 (fun W => Two w W) (first | exact T0.out.drew | exact T0.out | assumption | exact Two.below (by assumption) hbs)
    (first | (go_at_call 23; refine (sum_calls (some ad) 10 [x0, x1, x2, x3, x4, x5, x6, x7, x8, x9] _ (reads_sub (Two.reads (by assumption) H0.out) 0 10 (by simp) rfl) HM.out).mono ?_; rintro e wn ⟨rfl, hbs⟩) | (go_at_call 25; refine (read2 (ad.add 10) (c - 10) x10 x11 _ (reads_sub (Two.reads (by assumption) H0.out) 10 2 (by simp) rfl) (by have := HC.out; omega) G0.out.1 G0.out.2 G1.out.1 G1.out.2).mono ?_; rintro e wn ⟨rfl, hbs⟩))
  rename_i hHeld
  have T3 := Aside0.mk hHeld
  clear hHeld
  have e0 := reads_first (Two.reads T3.out H0.out)
  go_wp2_with fail
  clear e0
  go_region_held3 (fun W => W.cell? ad = some (.int .u8 x0) ∧ W.cell? ⟨ad.block, ad.off + 1, none⟩ = some (.int .u8 x1) ∧ W.frozen? ⟨w.heap.size + 1, 0, none⟩ = false ∧ W.frozen? ⟨w.heap.size + 1, 1, none⟩ = false ∧ W.frozen? ⟨w.heap.size + 1, 2, none⟩ = false ∧ W.frozen? ⟨w.heap.size + 1, 3, none⟩ = false ∧ W.frozen? ⟨w.heap.size + 1, 4, none⟩ = false ∧ W.frozen? ⟨w.heap.size + 1, 5, none⟩ = false)
    (first | (with_reducible exact kept8 T8.out H0.out _ _ _ _ _ _) | (with_reducible exact (held8 T8.out H0.out).2) | (with_reducible exact (held8 T3.out.drew H0.out).2) | (with_reducible exact (held8 T3.out H0.out).2))
    (first | (go_at_call 25; refine (read2 (ad.add 2) (c - 2) x2 x3 _ (reads_sub (Two.reads T3.out.drew H0.out) 2 2 (by simp) rfl) (by have := HC.out; omega) G2.out.1 G2.out.2 G3.out.1 G3.out.2).mono ?_; rintro e w8 ⟨rfl, hb8⟩; have T8 := Aside0.mk (Two.below T3.out.drew hb8); clear hb8; obtain ⟨d0, d1, d2, d3, d4, d5⟩ := T8.out.2.1.cells))
  rename_i hHeld
  clear hHeld d0 d1 d2 d3 d4 d5
  have P9 := Aside0.mk (Two.six T8.out x0 x1 (x2 * 256 + x3) 0 0 0)
  generalize ((((((w8.setCell ⟨w.heap.size + 1, 0, none⟩ (.int .u8 x0)).setCell ⟨w.heap.size + 1, 1, none⟩ (.int .u8 x1)).setCell ⟨w.heap.size + 1, 2, none⟩ (.int .u16 (x2 * 256 + x3))).setCell ⟨w.heap.size + 1, 3, none⟩ (.int .u8 0)).setCell ⟨w.heap.size + 1, 4, none⟩ (.int .u8 0)).setCell ⟨w.heap.size + 1, 5, none⟩ (.int .u32 0)) = w9 at P9 ⊢
  go_wp2_with fail
  go_region_held3 (fun W => W.cell? ⟨ad.block, ad.off + 4, none⟩ = some (.int .u8 x4) ∧ W.cell? ⟨ad.block, ad.off + 5, none⟩ = some (.int .u8 x5) ∧ W.frozen? ⟨w.heap.size + 1, 3, none⟩ = false ∧ W.frozen? ⟨w.heap.size + 1, 4, none⟩ = false ∧ W.frozen? ⟨w.heap.size + 1, 5, none⟩ = false)
    (first | (with_reducible exact kept10c P10.out H0.out HL.out E4.out E5.out _ _ _) | (with_reducible exact kept10b P10.out H0.out HL.out E4.out E5.out _ _) | (with_reducible exact kept10a P10.out H0.out HL.out E4.out E5.out _) | (with_reducible exact held10a P10.out H0.out HL.out E4.out E5.out) | (with_reducible exact held10a P9.out.drew H0.out HL.out E4.out E5.out) | (with_reducible exact held10a P9.out H0.out HL.out E4.out E5.out))
    (first | (go_at_call 25; refine (read4 (ad.add 6) (c - 6) x6 x7 x8 x9 _ (reads_sub (Pair.reads P9.out.drew H0.out) 6 4 (by simp) rfl) (by have := HC.out; omega) G6.out.1 G6.out.2 G7.out.1 G7.out.2 G8.out.1 G8.out.2 G9.out.1 G9.out.2).mono ?_; rintro e w10 ⟨rfl, hb8⟩; have P10 := Aside0.mk (Pair.below P9.out.drew hb8); clear hb8; obtain ⟨d0, d1, d2, d3, d4, d5⟩ := P10.out.2.1.cells))
  rename_i hHeld
  clear hHeld d0 d1 d2 d3 d4 d5 P9
  have P9 := Aside0.mk (Pair.three P10.out x4 x5 (x6 * 16777216 + x7 * 65536 + x8 * 256 + x9))
  generalize (((w10.setCell ⟨w.heap.size + 1, 3, none⟩ (.int .u8 x4)).setCell ⟨w.heap.size + 1, 4, none⟩ (.int .u8 x5)).setCell ⟨w.heap.size + 1, 5, none⟩ (.int .u32 (x6 * 16777216 + x7 * 65536 + x8 * 256 + x9))) = w9 at P9 ⊢
  obtain ⟨d0, d1, d2, d3, d4, d5⟩ := P9.out.2.1.cells
  go_wp2_with fail
  refine (sound_calls _ _ _ _ _ _ _).mono ?_
  clear d0 d1 d2 d3 d4 d5
  rw [SF.out]
  rintro e wA ⟨rfl, hb⟩
  have PA := Aside0.mk (P9.out.below hb)
  clear hb
  obtain ⟨c0, c1, c2, c3, c4, c5⟩ := PA.out.1.cells
  obtain ⟨d0, d1, d2, d3, d4, d5⟩ := PA.out.2.1.cells
  have f0 := PA.out.1.free 0
  have f1 := PA.out.1.free 1
  have f2 := PA.out.1.free 2
  have f3 := PA.out.1.free 3
  have f4 := PA.out.1.free 4
  have f5 := PA.out.1.free 5
  go_wp2_with fail
  refine bodyPost_ret (ret_cell_tmp rfl _ _ w.heap.size 25 _ (0, 0) _ (by rfl) (Box.set6 PA.out.1 _ _ _ _ _ _) Try.underlying25 rfl (by kernel_rfl)) rfl ?_
  exact ⟨rfl, below6 PA.out.2.2 (Nat.le_refl _) _ _ _ _ _ _⟩
end Go.Proofs.Ytamaemlhnkabcaa.Own
