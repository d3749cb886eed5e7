/- Packets that come in; FlowNone (layer 19). -/
import Derived.Test.YtladjllencanlaaOwnN
import Derived.Deep.Slices
import Derived.Deep.Fields
import Derived.ChangeSame
namespace Go.Proofs.Ytladjllencanlaa.Own
open Go.ChangeShapes Go.WideShapes Go.Deep Go.RowKit Go.Proofs.Ytladjllencanlaa.PFlowTells Go.Proofs.YtladjllencanlaaW.PrintWords Go.Proofs.YtladjllencanlaaW.PrintLast Go.Proofs.YtladjllencanlaaW.PrintMore
set_option linter.unusedVariables false
set_option linter.unusedSimpArgs false

section
variable {H : Type} {enc : TypeId × Value → H} {P : Program} {w : World} {base : Nat} {spare : Nat → Bool} {held : Bool}
theorem open_slice_fields {t e : TypeId} {fs : Array Field} {fuel : Nat} {cs : List Value} {x : DataW H × List MemPlace} (ht : P.underlying t = some (.slice e)) (he : P.underlying e = some (.struct fs))
    (hone : oneCellFields P fs = true) (hC : P.cellsOf e = fs.size) (h : DataW.trod enc P w base spare held fuel t cs = some x) :
    (cs = [.slice none 0 0] ∧ x = (.nil, [])) ∨
    ∃ (a : Addr) (len cap m : Nat) (D : Nat → DataW H) (Pl : Nat → List MemPlace), cs = [.slice (some a) len cap] ∧ base ≤ a.block ∧ len ≤ cap ∧ cap ≤ maxLen ∧ m = (if spare a.block then cap else len) ∧
      x = (.slice ((List.range len).map D) ((List.range (m - len)).map fun j => D (len + j)), MemPlace.row a (m * fs.size) ++ (List.range m).flatMap Pl) ∧
      ∀ i, i < m → ∃ (ys : List (DataW H × List MemPlace)) (n : Nat), D i = .agg (ys.map (·.1)) ∧ Pl i = ys.flatMap (·.2) ∧ ys.length = fs.size ∧
        ∀ (j : Nat) (f : Field), fs[j]? = some f → ∃ (v : Value) (y : DataW H × List MemPlace), w.cell? (a.add (i * fs.size + j)) = some v ∧ ys[j]? = some y ∧ DataW.trod enc P w base spare held n f.type [v] = some y := by
  rcases open_slice ht h with h0 | ⟨a, len, cap, m, n, D, Pl, hcs, hb, hl, hm, hmm, hx, hi⟩
  · exact .inl h0
  · refine .inr ⟨a, len, cap, m, D, Pl, hcs, hb, hl, hm, hmm, by rw [hC] at hx; exact hx, fun i him => ?_⟩
    obtain ⟨cs', hc, ht'⟩ := hi i him
    rw [hC] at hc
    obtain ⟨ys, n', hn', hy, hlen, hyl, hf⟩ := DataW.trod_struct he ht'
    obtain ⟨_, hcl, hat⟩ := World.cells?_some hc
    simp only [Prod.mk.injEq] at hy
    refine ⟨ys, n', hy.1, hy.2, hyl, fun j f hj => ?_⟩
    obtain ⟨ho, hk⟩ := hone_of hone j f hj
    have hjl : j < fs.size := (Array.getElem?_eq_some_iff.1 hj).1
    have hcell := hat j hjl
    have hv : cs'[j]? = some (cs'[j]'(by omega)) := List.getElem?_eq_getElem (by omega)
    have h1 := hf j f hj
    rw [ho, hk] at h1
    have hone' : (cs'.drop j).take 1 = [cs'[j]'(by omega)] := by
      rw [List.drop_eq_getElem_cons (by omega)]
      rfl
    rw [hone'] at h1
    have hys : ys[j]? = some (ys[j]'(by omega)) := List.getElem?_eq_getElem (by omega)
    refine ⟨_, _, ?_, hys, h1.trans hys⟩
    rw [← Go.Deep.add_add, hcell, hv]
end

/-- Packets that came in. -/
def Pks (w : World) (A : Option Addr) (n : Nat) (l : List S40) : Prop := l.length = n ∧ Kd.C k40 w A l.length l
theorem Pks.open_ {H : Type} {enc : TypeId × Value → H} {w : World} {a : Option Addr} {len cap : Nat} {d : DataW H} {p : List MemPlace} (h : DataW.Trod enc Try.prog w 0 (fun _ => true) true 22 (.slice a len cap) d p) : ∃ l, Pks w a len l ∧ len ≤ cap := by
  obtain ⟨fuel, hf⟩ := h
  rcases open_slice_fields Try.underlying22 Try.underlying40 (by kernel_rfl) (by kernel_rfl) hf with ⟨hcs, _⟩ | ⟨x, l, c, m, D, Pl, hcs, _, hl, hm, hmm, _, hi⟩
  · simp [Value.cells] at hcs
    obtain ⟨rfl, rfl, rfl⟩ := hcs
    exact ⟨[], ⟨rfl, rfl, by simp, fun h => absurd h (by simp)⟩, Nat.le_refl _⟩
  · simp [Value.cells] at hcs
    obtain ⟨rfl, rfl, rfl⟩ := hcs
    simp only [if_true] at hmm
    subst hmm
    have key : ∀ k, k < len → ∃ z : S40, w.cell? (x.add (k * 4)) = some (.int .i64 z.f0) ∧ w.cell? (x.add (k * 4 + 1)) = some (.int .i64 z.f1) ∧ w.cell? (x.add (k * 4 + 2)) = some (.int .i64 z.f2) ∧ w.cell? (x.add (k * 4 + 3)) = some (.int .u32 z.f3) := by
      intro k hk
      obtain ⟨ys, n, _, _, _, hf⟩ := hi k (Nat.lt_of_lt_of_le hk hl)
      obtain ⟨v0, y0, c0, _, t0⟩ := hf 0 _ rfl
      obtain ⟨v1, y1, c1, _, t1⟩ := hf 1 _ rfl
      obtain ⟨v2, y2, c2, _, t2⟩ := hf 2 _ rfl
      obtain ⟨v3, y3, c3, _, t3⟩ := hf 3 _ rfl
      obtain ⟨z0, e0, _, u0⟩ := DataW.trod_int Try.underlying3 t0
      obtain ⟨z1, e1, _, u1⟩ := DataW.trod_int Try.underlying3 t1
      obtain ⟨z2, e2, _, u2⟩ := DataW.trod_int Try.underlying3 t2
      obtain ⟨z3, e3, _, u3⟩ := DataW.trod_int Try.underlying31 t3
      obtain rfl := (List.cons.inj e0).1
      obtain rfl := (List.cons.inj e1).1
      obtain rfl := (List.cons.inj e2).1
      obtain rfl := (List.cons.inj e3).1
      exact ⟨⟨z0, z1, z2, z3⟩, c0, c1, c2, c3⟩
    let F : Nat → S40 := fun k => if h : k < len then (key k h).choose else z40
    refine ⟨(List.range len).map F, ⟨by simp, by simp, by simp; unfold maxLen at hm; omega, fun _ => ⟨x, rfl, fun j q hj => ?_⟩⟩, hl⟩
    have hjl : j < len := by
      have := (List.getElem?_eq_some_iff.1 hj).1
      simpa using this
    have hq : q = F j := by
      rw [List.getElem?_map, List.getElem?_range hjl] at hj
      exact (Option.some.inj hj).symm
    have hs := (key j hjl).choose_spec
    have hF : F j = (key j hjl).choose := dif_pos hjl
    rw [← hF, ← hq] at hs
    obtain ⟨c0, c1, c2, c3⟩ := hs
    refine ⟨enc40 q, rfl, k40_mk w q, fun i u hu => ?_⟩
    have hi4 : i < 4 := (List.getElem?_eq_some_iff.1 hu).1
    show w.cell? (x.add (j * 4 + i)) = some u
    match i, hi4 with
    | 0, _ => rw [Nat.add_zero, c0]; exact hu
    | 1, _ => rw [c1]; exact hu
    | 2, _ => rw [c2]; exact hu
    | 3, _ => rw [c3]; exact hu
theorem none_bodies (l : List S40) (x : Int) (h : ∀ k, k < l.length → ¬ (rd_T40 l (k : Int)).f0 = x) : bodiesOf l ⟨x, 0, 0⟩ = [] := by
  unfold bodiesOf
  rw [List.filter_eq_nil_iff.2, List.map_nil]
  intro p hp
  obtain ⟨k, hk, rfl⟩ := List.getElem_of_mem hp
  have := h k hk
  rw [rd40 l k hk] at this
  simp [flOf, this]
set_option maxHeartbeats 1000000 in
set_option maxRecDepth 100000 in
theorem none_big (A : Option Addr) (c : Nat) (l : List S40) (x : Int) (w : World) (hl : 200 < l.length) : Calls Try.prog 10 #[.slice A l.length c, .int .i64 x] w fun e w' => e = .returned (.bool true) ∧ Below w.heap.size w w' := by
  have e0 : decide ((l.length : Int) > 200) = true := decide_eq_true (by omega)
  clear hl
  go_enter Try.func10, Try.ntmps10
  go_wp2_with fail
  refine (known_calls _).mono ?_
  rintro e w1 ⟨rfl, hb⟩
  have B1 := Aside0.mk hb
  clear hb
  go_wp2
  go_ret
  exact ⟨rfl, B1.out⟩
set_option maxHeartbeats 1000000 in
set_option maxRecDepth 100000 in
theorem none_ok (A : Option Addr) (c : Nat) (l : List S40) (x : Int) (w : World) (hr : Kd.C k40 w A l.length l) (hc : l.length ≤ c) (hl : ¬ 200 < l.length) : Calls Try.prog 10 #[.slice A l.length c, .int .i64 x] w fun e w' => e = .returned (.bool true) ∧ Below w.heap.size w w' := by
  have e0 : decide ((l.length : Int) > 200) = false := decide_eq_false (by omega)
  have HR := Aside0.mk hr
  have HC := Aside0.mk hc
  have HL := Aside0.mk hl
  have FN := Aside0.mk (show flowsOf [] = [] by unfold flowsOf; simp [sorted27, Lib.compactUpTo])
  clear hr hc hl
  go_enter Try.func10, Try.ntmps10
  go_wp2_with fail
  refine (known_calls _).mono ?_
  rintro e w1 ⟨rfl, hb⟩
  have B1 := Aside0.mk hb
  have HR1 := Aside0.mk (Kd.C_below HR.out hb)
  clear hb
  go_wp2
  go_loopg [5] l.length (fun n s5 wr => ∃ k : Nat, k + n = l.length ∧ s5 = .int .i64 k ∧ Aside0 (∀ j, j < k → ¬ (rd_T40 l (j : Int)).f0 = x) ∧ w1 = wr)
  case atStart => exact ⟨0, by omega, rfl, ⟨fun j hj => absurd hj (by omega)⟩, rfl⟩
  case round =>
    obtain ⟨k, hk, rfl, N, rfl⟩ := hrel
    by_cases hlt : k < l.length
    · obtain ⟨ad, rfl, x0, x1, x2, x3⟩ := at_T40 HR1.out (k : Int) (by omega) (by omega)
      rw [Int.toNat_natCast] at x0 x1 x2 x3
      have e1 : (k : Int) < (l.length : Int) := by omega
      have hls := HL.out
      obtain ⟨y, ey⟩ : ∃ y, (rd_T40 l (k : Int)).f0 = y := ⟨_, rfl⟩
      rw [ey] at x0
      have EY := Aside0.mk ey
      clear ey x1 x2 x3
      by_cases hyx : y = x
      · subst hyx
        go_wp2
        go_ret
        exact ⟨rfl, B1.out⟩
      · have e2 : (y == x) = false := beq_eq_false_iff_ne.mpr hyx
        have HY := Aside0.mk hyx
        clear hyx
        go_wp2
        go_roundg (l.length - (k + 1))
        case measure => omega
        case rel => exact ⟨k + 1, by omega, by go_num, ⟨fun j hj => by
          by_cases e : j = k
          · subst e; rw [EY.out]; exact HY.out
          · exact N.out j (by omega)⟩, rfl⟩
    · have e1 : ¬ (k : Int) < (l.length : Int) := by omega
      have NB := Aside0.mk (none_bodies l x (fun j hj => N.out j (by omega)))
      clear N
      go_wp2_with fail
      refine (flows_at none 0 0 [] rfl _ ⟨rfl, by simp, fun h => absurd h (by simp)⟩ (Nat.le_refl 0) (by decide)).mono ?_
      rintro e w2 ⟨A2, c2, rfl, _, _, hb⟩
      rw [FN.out]
      have B2 := Aside0.mk (below_then B1.out B1.out.size hb)
      have HR2 := Aside0.mk (Kd.C_below HR1.out hb)
      clear hb
      have hls := HL.out
      have LE : Aside0 (l.length ≤ 1000) := Aside0.mk (by have := HL.out; omega)
      go_wp2_with fail
      refine (bodies_calls A c l.length l rfl ⟨x, 0, 0⟩ _ HR2.out HC.out LE.out).mono ?_
      rintro e w3 ⟨A3, c3, rfl, _, _, hb⟩
      rw [NB.out]
      have B3 := Aside0.mk (below_then B2.out B2.out.size hb)
      clear hb
      go_wp2_with fail
      refine (sub_at none none 0 0 0 0 [] [] rfl rfl _ ⟨rfl, by simp, fun h => absurd h (by simp)⟩ ⟨rfl, by simp, fun h => absurd h (by simp)⟩ (Nat.le_refl 0) (Nat.le_refl 0) (b := true) (by decide)).mono ?_
      rintro e wx ⟨rfl, rfl⟩
      go_wp2_with fail
      refine (lost_at none none 0 0 0 0 [] [] rfl rfl _ ⟨rfl, by simp, fun h => absurd h (by simp)⟩ ⟨rfl, by simp, fun h => absurd h (by simp)⟩ (Nat.le_refl 0) (Nat.le_refl 0) (r := 0) (by decide)).mono ?_
      rintro e wx ⟨rfl, rfl⟩
      go_wp2
      go_ret
      exact ⟨rfl, B3.out⟩
theorem flowNone_term (A : Option Addr) (n c : Nat) (l : List S40) (x : Int) (w : World) (hr : Pks w A n l) (hc : n ≤ c) (hx : (Lit.int .i64 x).wf = true) : Calls Try.prog 10 #[.slice A n c, .int .i64 x] w fun e w' => e = .returned (.bool true) ∧ Below w.heap.size w w' := by
  obtain ⟨rfl, hr⟩ := hr
  by_cases hl : 200 < l.length
  · exact none_big A c l x w hl
  · exact none_ok A c l x w hr hc hl
end Go.Proofs.Ytladjllencanlaa.Own
