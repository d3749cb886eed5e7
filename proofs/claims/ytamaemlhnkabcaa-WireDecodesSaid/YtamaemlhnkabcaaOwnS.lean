/- The reference's Decode (layer 3). -/
import Derived.Test.YtamaemlhnkabcaaOwnQ
import Derived.Deep.RegionHeld3
namespace Go.Proofs.Ytamaemlhnkabcaa.Own
open Go.RowKit Go.Proofs.Ytamaemlhnkabcaa.Crc Go.Proofs.Ytamaemlhnkabcaa.PWireRefuses Go.Proofs.YtamaemlhnkabcaaW.PrintWords Go.Proofs.YtamaemlhnkabcaaW.PrintLast Go.Proofs.YtamaemlhnkabcaaW.PrintMore
set_option linter.unusedVariables false
set_option linter.unusedSimpArgs false

/-- The frame that the reference's Decode reads off. -/
def rfr (l : List Int) : Fr := if l.getD 0 0 = 1 ∧ 12 ≤ l.length then ⟨l.getD 0 0, l.getD 1 0, l.getD 2 0 * 256 + l.getD 3 0, l.getD 4 0, l.getD 5 0, l.getD 6 0 * 16777216 + l.getD 7 0 * 65536 + l.getD 8 0 * 256 + l.getD 9 0⟩ else ⟨l.getD 0 0, l.getD 1 0, l.getD 2 0 * 256 + l.getD 3 0, 0, 0, 0⟩
theorem rfr_wf {l : List Int} (ho : Oct l) : (rfr l).wf := by
  have g0 := ho.getD 0
  have g1 := ho.getD 1
  have g2 := ho.getD 2
  have g3 := ho.getD 3
  have g4 := ho.getD 4
  have g5 := ho.getD 5
  have g6 := ho.getD 6
  have g7 := ho.getD 7
  have g8 := ho.getD 8
  have g9 := ho.getD 9
  unfold rfr Fr.wf
  split <;> dsimp only <;> omega
theorem dec_rfr {l : List Int} {H : Fr} (h : dec l = some H) : H = rfr l := by
  unfold dec at h
  split at h
  · unfold dec6 at h
    split at h
    next hc =>
      obtain rfl := Option.some.inj h
      unfold rfr
      rw [if_neg (fun k => hc.2.1 k.1)]
      rfl
    next => cases h
  · unfold dec12 at h
    split at h
    next hc =>
      obtain rfl := Option.some.inj h
      unfold rfr
      rw [if_pos ⟨hc.2.1, by simp⟩]
      rfl
    next => cases h
  · cases h
theorem dec_bad {l : List Int} (ho : Oct l) (h : ¬ ((rfr l).sound = true ∧ (rfr l).bytes = l)) : dec l = none := by
  rcases hd : dec l with _ | H
  · rfl
  · obtain ⟨h1, _, h3⟩ := dec_bytes ho hd
    rw [dec_rfr hd] at h1 h3
    exact absurd ⟨h3, h1⟩ h
theorem dec_good {l : List Int} (ho : Oct l) (hs : (rfr l).sound = true) (hb : (rfr l).bytes = l) : dec l = some (rfr l) := by
  have := dec_enc (rfr_wf ho) hs
  rwa [hb] at this
/-- What the reference's Decode answers. -/
def RBack (w : World) (f : Fr) (c : Int) (e : Ending) (w' : World) : Prop := e = .returned (.tuple #[f.val, .int .i64 c]) ∧ Below w.heap.size w w'
theorem reads_zero {W : World} {ad : Addr} {l : List Int} (h : ReadsInt W .u8 (some ad) l.length l) (hl : 0 < l.length) {x : Int} (hx : l.getD 0 0 = x) : W.cell? ad = some (.int .u8 x) := by
  have := reads_cell h 0 hl hx
  simpa [Addr.add] using this
theorem rheld {W : World} {ad : Addr} {l : List Int} {x0 x1 x2 x3 : Int} (h : ReadsInt W .u8 (some ad) l.length l) (hl : 6 ≤ l.length) (e0 : l.getD 0 0 = x0) (e1 : l.getD 1 0 = x1) (e2 : l.getD 2 0 = x2) (e3 : l.getD 3 0 = x3) :
    W.cell? ad = some (.int .u8 x0) ∧ W.cell? ⟨ad.block, ad.off + 1, none⟩ = some (.int .u8 x1) ∧ W.cell? ⟨ad.block, ad.off + 2, none⟩ = some (.int .u8 x2) ∧ W.cell? ⟨ad.block, ad.off + 3, none⟩ = some (.int .u8 x3) :=
  ⟨reads_zero h (by omega) e0, reads_next h 0 (by omega) e1, reads_next h 1 (by omega) e2, reads_next h 2 (by omega) e3⟩
theorem rheld4 {W : World} {ad : Addr} {l : List Int} {x0 x1 x2 x3 : Int} (h : ReadsInt W .u8 (some ad) l.length l) (hl : 12 ≤ l.length) (e0 : l.getD 6 0 = x0) (e1 : l.getD 7 0 = x1) (e2 : l.getD 8 0 = x2) (e3 : l.getD 9 0 = x3) :
    W.cell? ⟨ad.block, ad.off + 6, none⟩ = some (.int .u8 x0) ∧ W.cell? ⟨ad.block, ad.off + 7, none⟩ = some (.int .u8 x1) ∧ W.cell? ⟨ad.block, ad.off + 8, none⟩ = some (.int .u8 x2) ∧ W.cell? ⟨ad.block, ad.off + 9, none⟩ = some (.int .u8 x3) :=
  ⟨reads_next h 5 (by omega) e0, reads_next h 6 (by omega) e1, reads_next h 7 (by omega) e2, reads_next h 8 (by omega) e3⟩
theorem Pair.newer (w : World) (k l s a b y : Int) : Pair w ((w.alloc (.cells #[.int .u8 0, .int .u8 0, .int .u16 0, .int .u8 0, .int .u8 0, .int .u32 0] 25)).alloc (.cells #[.int .u8 k, .int .u8 l, .int .u16 s, .int .u8 a, .int .u8 b, .int .u32 y] 25)).drew ⟨k, l, s, a, b, y⟩ :=
  Pair.drew ⟨blk_below (blk_new _ _) (below_alloc (Below.refl _ _) _), (by have := blk_new (w.alloc (.cells #[.int .u8 0, .int .u8 0, .int .u16 0, .int .u8 0, .int .u8 0, .int .u32 0] 25)) (.cells #[.int .u8 k, .int .u8 l, .int .u16 s, .int .u8 a, .int .u8 b, .int .u32 y] 25); rwa [show (w.alloc (.cells #[.int .u8 0, .int .u8 0, .int .u16 0, .int .u8 0, .int .u8 0, .int .u32 0] 25)).heap.size = w.heap.size + 1 by simp] at this : ((w.alloc (.cells #[.int .u8 0, .int .u8 0, .int .u16 0, .int .u8 0, .int .u8 0, .int .u32 0] 25)).alloc (.cells #[.int .u8 k, .int .u8 l, .int .u16 s, .int .u8 a, .int .u8 b, .int .u32 y] 25)).heap[w.heap.size + 1]? = some (.cells #[.int .u8 k, .int .u8 l, .int .u16 s, .int .u8 a, .int .u8 b, .int .u32 y] 25 (0, 0))), below_alloc (below_alloc (Below.refl _ _) _) _⟩
theorem Pair.two {w W : World} {k l s a' b' y : Int} (h : Pair w W ⟨k, l, s, a', b', y⟩) (a b : Int) : Pair w ((W.setCell ⟨w.heap.size + 1, 3, none⟩ (.int .u8 a)).setCell ⟨w.heap.size + 1, 4, none⟩ (.int .u8 b)) ⟨k, l, s, a, b, y⟩ :=
  ⟨blk_far (blk_far h.1 (p := ⟨w.heap.size + 1, 3, none⟩) (by simp) _) (p := ⟨w.heap.size + 1, 4, none⟩) (by simp) _, by
    have h3 := blk_set h.2.1 3 (.int .u8 a)
    exact blk_set h3 4 (.int .u8 b), below_set (below_set h.2.2 (Nat.le_succ w.heap.size)) (Nat.le_succ w.heap.size)⟩
theorem Pair.one {w W : World} {k l s a b y' : Int} (h : Pair w W ⟨k, l, s, a, b, y'⟩) (y : Int) : Pair w (W.setCell ⟨w.heap.size + 1, 5, none⟩ (.int .u32 y)) ⟨k, l, s, a, b, y⟩ :=
  ⟨blk_far h.1 (p := ⟨w.heap.size + 1, 5, none⟩) (by simp) _, blk_set h.2.1 5 (.int .u32 y), below_set h.2.2 (Nat.le_succ w.heap.size)⟩
set_option maxHeartbeats 4000000 in
set_option maxRecDepth 100000 in
theorem rdec_less (A : Option Addr) (c : Nat) (l : List Int) (w : World) (hl : l.length < 6) : Calls Try.prog 20 #[.slice A l.length c] w (RBack w Fr.zero 30) := by
  have e0 : decide ((l.length : Int) < 6) = true := decide_eq_true (by omega)
  clear hl
  go_enter Try.func20, Try.ntmps20
  go_wp2_with fail
  refine bodyPost_ret (ret_cell_tmp rfl _ _ w.heap.size 25 _ (0, 0) _ (by rfl) (show At (w.alloc (.cells #[.int .u8 0, .int .u8 0, .int .u16 0, .int .u8 0, .int .u8 0, .int .u32 0] 25)) w.heap.size Fr.zero from blk_new _ _) Try.underlying25 rfl (by kernel_rfl)) rfl ?_
  exact ⟨rfl, below_alloc (Below.refl _ _) _⟩
set_option maxHeartbeats 4000000 in
set_option maxRecDepth 100000 in
theorem rdec_k_bad (ad : Addr) (c : Nat) (l : List Int) (w : World) (hr : ReadsInt w .u8 (some ad) l.length l) (hc : l.length ≤ c) (hl : 6 ≤ l.length) (x0 x1 x2 x3 : Int) (g0 : 0 ≤ x0 ∧ x0 ≤ 255) (q0 : l.getD 0 0 = x0) (g1 : 0 ≤ x1 ∧ x1 ≤ 255) (q1 : l.getD 1 0 = x1) (g2 : 0 ≤ x2 ∧ x2 ≤ 255) (q2 : l.getD 2 0 = x2) (g3 : 0 ≤ x3 ∧ x3 ≤ 255) (q3 : l.getD 3 0 = x3) (hk : ¬ x0 = 1) (hw : (Fr.mk (x0) (x1) (x2 * 256 + x3) (0) (0) (0)).wf) (hs : (Fr.mk (x0) (x1) (x2 * 256 + x3) (0) (0) (0)).sound = false) :
    Calls Try.prog 20 #[.slice (some ad) l.length c] w (RBack w Fr.zero 30) := by
  have H0 := Aside0.mk hr
  have HL := Aside0.mk hl
  have HW := Aside0.mk hw
  have HS := Aside0.mk hs
  have Q0 := Aside0.mk q0
  have Q1 := Aside0.mk q1
  have Q2 := Aside0.mk q2
  have Q3 := Aside0.mk q3
  have e0 : decide ((l.length : Int) < 6) = false := decide_eq_false (by omega)
  have eA : (x0 == 1) = false := beq_eq_false_iff_ne.mpr hk
  have i0 : (0 : Int) < (l.length : Int) := by omega
  have n0 : 0 < l.length := by omega
  have n1 : 1 < l.length := by omega
  have n2 : 2 < l.length := by omega
  have n3 : 3 < l.length := by omega
  have i1 : (1 : Int) < (l.length : Int) := by omega
  have i2 : (2 : Int) < (l.length : Int) := by omega
  have i3 : (3 : Int) < (l.length : Int) := by omega
  have wa : IntKind.u16.wrap x2 = x2 := by rw [w16]; omega
  have wb : IntKind.u16.wrap (x2 * 256) = x2 * 256 := by rw [w16]; omega
  have wc : IntKind.u16.wrap x3 = x3 := by rw [w16]; omega
  have wd : IntKind.u16.wrap (x2 * 256 + x3) = x2 * 256 + x3 := by rw [w16]; omega
  clear hr hl hw hs hc hk  q0 q1 q2 q3
  go_enter Try.func20, Try.ntmps20
  go_wp2_with fail
  have B0 := Aside0.mk (below_alloc (Below.refl w.heap.size w) (.cells #[.int .u8 0, .int .u8 0, .int .u16 0, .int .u8 0, .int .u8 0, .int .u32 0] 25))
  refine wp_region_held_drew (S := fun W => W.cell? ad = some (.int .u8 x0) ∧ W.cell? ⟨ad.block, ad.off + 1, none⟩ = some (.int .u8 x1) ∧ W.cell? ⟨ad.block, ad.off + 2, none⟩ = some (.int .u8 x2) ∧ W.cell? ⟨ad.block, ad.off + 3, none⟩ = some (.int .u8 x3)) (by kernel_rfl) ?_ (fun hHeld => ?_)
  · exact rheld (H0.out.below B0.out.drew) HL.out Q0.out Q1.out Q2.out Q3.out
  refine wpAnyH_take (i := 0) (v := ?v0) (rfl) (by kernel_rfl) (by kernel_rfl) (by kernel_rfl) (fun _ _ _ h => h) ?y0 (by assumption) ?r0
  case y0 => first | (refine Or.inr ⟨?_, ?_⟩; rfl; rfl) | (refine Or.inl ⟨?_, ?_⟩; rfl; intro w hSw; (try dsimp only at hSw); go_simp; try with_reducible rfl)
  simp only [Act.put, List.setIfInBounds_toArray, List.set_cons_zero, List.set_cons_succ, List.getElem_toArray, List.getElem_cons_succ, List.getElem_cons_zero]
  refine wpAnyH_take (i := 1) (v := ?v1) (rfl) (by kernel_rfl) (by kernel_rfl) (by kernel_rfl) (fun _ _ _ h => h) ?y1 (by assumption) ?r1
  case y1 => first | (refine Or.inr ⟨?_, ?_⟩; rfl; rfl) | (refine Or.inl ⟨?_, ?_⟩; rfl; intro w hSw; (try dsimp only at hSw); go_simp; try with_reducible rfl)
  simp only [Act.put, List.setIfInBounds_toArray, List.set_cons_zero, List.set_cons_succ, List.getElem_toArray, List.getElem_cons_succ, List.getElem_cons_zero]
  refine wpAnyH_take (i := 2) (v := ?v2) (rfl) (by kernel_rfl) (by kernel_rfl) (by kernel_rfl) (fun _ _ _ h => h) ?y2 (by assumption) ?r2
  case y2 => first | (refine Or.inr ⟨?_, ?_⟩; rfl; rfl) | (refine Or.inl ⟨?_, ?_⟩; rfl; intro w hSw; (try dsimp only at hSw); go_simp; try with_reducible rfl)
  simp only [Act.put, List.setIfInBounds_toArray, List.set_cons_zero, List.set_cons_succ, List.getElem_toArray, List.getElem_cons_succ, List.getElem_cons_zero]
  refine wpAnyH_take (i := 3) (v := ?v3) (rfl) (by kernel_rfl) (by kernel_rfl) (by kernel_rfl) (fun _ _ _ h => h) ?y3 (by assumption) ?r3
  case y3 => first | (refine Or.inr ⟨?_, ?_⟩; rfl; rfl) | (refine Or.inl ⟨?_, ?_⟩; rfl; intro w hSw; (try dsimp only at hSw); go_simp; try with_reducible rfl)
  simp only [Act.put, List.setIfInBounds_toArray, List.set_cons_zero, List.set_cons_succ, List.getElem_toArray, List.getElem_cons_succ, List.getElem_cons_zero]
  refine wpAnyH_take (i := 4) (v := ?v4) (rfl) (by kernel_rfl) (by kernel_rfl) (by kernel_rfl) (fun _ _ _ h => h) ?y4 (by assumption) ?r4
  case y4 => first | (refine Or.inr ⟨?_, ?_⟩; rfl; rfl) | (refine Or.inl ⟨?_, ?_⟩; rfl; intro w hSw; (try dsimp only at hSw); go_simp; try with_reducible rfl)
  simp only [Act.put, List.setIfInBounds_toArray, List.set_cons_zero, List.set_cons_succ, List.getElem_toArray, List.getElem_cons_succ, List.getElem_cons_zero]
  refine wpAnyH_take (i := 5) (v := ?v5) (rfl) (by kernel_rfl) (by kernel_rfl) (by kernel_rfl) (fun _ _ _ h => h) ?y5 (by assumption) ?r5
  case y5 => first | (refine Or.inr ⟨?_, ?_⟩; rfl; rfl) | (refine Or.inl ⟨?_, ?_⟩; rfl; intro w hSw; (try dsimp only at hSw); go_simp; try with_reducible rfl)
  simp only [Act.put, List.setIfInBounds_toArray, List.set_cons_zero, List.set_cons_succ, List.getElem_toArray, List.getElem_cons_succ, List.getElem_cons_zero]
  refine wpAnyH_take (i := 6) (v := ?v6) (rfl) (by kernel_rfl) (by kernel_rfl) (by kernel_rfl) (fun _ _ _ h => h) ?y6 (by assumption) ?r6
  case y6 => first | (refine Or.inr ⟨?_, ?_⟩; rfl; rfl) | (refine Or.inl ⟨?_, ?_⟩; rfl; intro w hSw; (try dsimp only at hSw); go_simp; try with_reducible rfl)
  simp only [Act.put, List.setIfInBounds_toArray, List.set_cons_zero, List.set_cons_succ, List.getElem_toArray, List.getElem_cons_succ, List.getElem_cons_zero]
  refine wpAnyH_take (i := 7) (v := ?v7) (rfl) (by kernel_rfl) (by kernel_rfl) (by kernel_rfl) (fun _ _ _ h => h) ?y7 (by assumption) ?r7
  case y7 => first | (refine Or.inr ⟨?_, ?_⟩; rfl; rfl) | (refine Or.inl ⟨?_, ?_⟩; rfl; intro w hSw; (try dsimp only at hSw); go_simp; try with_reducible rfl)
  simp only [Act.put, List.setIfInBounds_toArray, List.set_cons_zero, List.set_cons_succ, List.getElem_toArray, List.getElem_cons_succ, List.getElem_cons_zero]
  refine wpAnyH_take (i := 8) (v := ?v8) (rfl) (by kernel_rfl) (by kernel_rfl) (by kernel_rfl) (fun _ _ _ h => h) ?y8 (by assumption) ?r8
  case y8 => first | (refine Or.inr ⟨?_, ?_⟩; rfl; rfl) | (refine Or.inl ⟨?_, ?_⟩; rfl; intro w hSw; (try dsimp only at hSw); go_simp; try with_reducible rfl)
  simp only [Act.put, List.setIfInBounds_toArray, List.set_cons_zero, List.set_cons_succ, List.getElem_toArray, List.getElem_cons_succ, List.getElem_cons_zero]
  refine wpAnyH_take (i := 9) (v := ?v9) (rfl) (by kernel_rfl) (by kernel_rfl) (by kernel_rfl) (fun _ _ _ h => h) ?y9 (by assumption) ?r9
  case y9 => first | (refine Or.inr ⟨?_, ?_⟩; rfl; rfl) | (refine Or.inl ⟨?_, ?_⟩; rfl; intro w hSw; (try dsimp only at hSw); go_simp; try with_reducible rfl)
  simp only [Act.put, List.setIfInBounds_toArray, List.set_cons_zero, List.set_cons_succ, List.getElem_toArray, List.getElem_cons_succ, List.getElem_cons_zero]
  refine wpAnyH_take (i := 10) (v := ?v10) (rfl) (by kernel_rfl) (by kernel_rfl) (by kernel_rfl) (fun _ _ _ h => h) ?y10 (by assumption) ?r10
  case y10 => first | (refine Or.inr ⟨?_, ?_⟩; rfl; rfl) | (refine Or.inl ⟨?_, ?_⟩; rfl; intro w hSw; (try dsimp only at hSw); go_simp; try with_reducible rfl)
  simp only [Act.put, List.setIfInBounds_toArray, List.set_cons_zero, List.set_cons_succ, List.getElem_toArray, List.getElem_cons_succ, List.getElem_cons_zero]
  refine wpAnyH_take (i := 11) (v := ?v11) (rfl) (by kernel_rfl) (by kernel_rfl) (by kernel_rfl) (fun _ _ _ h => h) ?y11 (by assumption) ?r11
  case y11 => first | (refine Or.inr ⟨?_, ?_⟩; rfl; rfl) | (refine Or.inl ⟨?_, ?_⟩; rfl; intro w hSw; (try dsimp only at hSw); go_simp; try with_reducible rfl)
  simp only [Act.put, List.setIfInBounds_toArray, List.set_cons_zero, List.set_cons_succ, List.getElem_toArray, List.getElem_cons_succ, List.getElem_cons_zero]
  refine wpAnyH_take (i := 12) (v := ?v12) (rfl) (by kernel_rfl) (by kernel_rfl) (by kernel_rfl) (fun _ _ _ h => h) ?y12 (by assumption) ?r12
  case y12 => first | (refine Or.inr ⟨?_, ?_⟩; rfl; rfl) | (refine Or.inl ⟨?_, ?_⟩; rfl; intro w hSw; (try dsimp only at hSw); go_simp; try with_reducible rfl)
  simp only [Act.put, List.setIfInBounds_toArray, List.set_cons_zero, List.set_cons_succ, List.getElem_toArray, List.getElem_cons_succ, List.getElem_cons_zero]
  refine wpAnyH_take (i := 13) (v := ?v13) (rfl) (by kernel_rfl) (by kernel_rfl) (by kernel_rfl) (fun _ _ _ h => h) ?y13 (by assumption) ?r13
  case y13 => first | (refine Or.inr ⟨?_, ?_⟩; rfl; rfl) | (refine Or.inl ⟨?_, ?_⟩; rfl; intro w hSw; (try dsimp only at hSw); go_simp; try with_reducible rfl)
  simp only [Act.put, List.setIfInBounds_toArray, List.set_cons_zero, List.set_cons_succ, List.getElem_toArray, List.getElem_cons_succ, List.getElem_cons_zero]
  refine wpAnyH_take (i := 14) (v := ?v14) (rfl) (by kernel_rfl) (by kernel_rfl) (by kernel_rfl) (fun _ _ _ h => h) ?y14 (by assumption) ?r14
  case y14 => first | (refine Or.inr ⟨?_, ?_⟩; rfl; rfl) | (refine Or.inl ⟨?_, ?_⟩; rfl; intro w hSw; (try dsimp only at hSw); go_simp; try with_reducible rfl)
  simp only [Act.put, List.setIfInBounds_toArray, List.set_cons_zero, List.set_cons_succ, List.getElem_toArray, List.getElem_cons_succ, List.getElem_cons_zero]
  refine wpAnyH_take (i := 15) (v := ?v15) (rfl) (by kernel_rfl) (by kernel_rfl) (by kernel_rfl) (fun _ _ _ h => h) ?y15 (by assumption) ?r15
  case y15 => first | (refine Or.inr ⟨?_, ?_⟩; rfl; rfl) | (refine Or.inl ⟨?_, ?_⟩; rfl; intro w hSw; (try dsimp only at hSw); go_simp; try with_reducible rfl)
  simp only [Act.put, List.setIfInBounds_toArray, List.set_cons_zero, List.set_cons_succ, List.getElem_toArray, List.getElem_cons_succ, List.getElem_cons_zero]
  refine wpAnyH_take (i := 16) (v := ?v16) (rfl) (by kernel_rfl) (by kernel_rfl) (by kernel_rfl) (fun _ _ _ h => h) ?y16 (by assumption) ?r16
  case y16 => first | (refine Or.inr ⟨?_, ?_⟩; rfl; rfl) | (refine Or.inl ⟨?_, ?_⟩; rfl; intro w hSw; (try dsimp only at hSw); go_simp; try with_reducible rfl)
  simp only [Act.put, List.setIfInBounds_toArray, List.set_cons_zero, List.set_cons_succ, List.getElem_toArray, List.getElem_cons_succ, List.getElem_cons_zero]
  refine wpAnyH_ready (rs := [17]) (by kernel_rfl) (by simp) ?_
  refine AllReadyH.cons rfl (fun K hK => ?_) AllReadyH.nil
  go_simp
  try clear hHeld
  refine hK.out _ _ (rheld (H0.out.below (below_alloc B0.out.drew _)) HL.out Q0.out Q1.out Q2.out Q3.out) (fun hHeld => ?_)
  clear hK K
  try simp only [Act.put, List.setIfInBounds_toArray, List.set_cons_zero, List.set_cons_succ, List.getElem_toArray, List.getElem_cons_succ, List.getElem_cons_zero]
  have P2 := Aside0.mk (Pair.newer w x0 x1 (x2 * 256 + x3) 0 0 0)
  refine wpAnyH_ready (rs := [18]) (by kernel_rfl) (by simp) ?_
  refine AllReadyH.cons rfl (fun K hK => ?_) AllReadyH.nil
  go_simp
  try clear hHeld
  refine hK.out _ _ (rheld (P2.out.reads H0.out) HL.out Q0.out Q1.out Q2.out Q3.out) (fun hHeld => ?_)
  clear hK K
  try simp only [Act.put, List.setIfInBounds_toArray, List.set_cons_zero, List.set_cons_succ, List.getElem_toArray, List.getElem_cons_succ, List.getElem_cons_zero]
  refine wpAnyH_done (by kernel_rfl) ?_ _
  clear hHeld
  generalize ((w.alloc (.cells #[.int .u8 0, .int .u8 0, .int .u16 0, .int .u8 0, .int .u8 0, .int .u32 0] 25)).alloc (.cells #[.int .u8 x0, .int .u8 x1, .int .u16 (x2 * 256 + x3), .int .u8 0, .int .u8 0, .int .u32 0] 25)).drew = w3 at P2 ⊢
  obtain ⟨d0, d1, d2, d3, d4, d5⟩ := P2.out.2.1.cells
  have P4 := Aside0.mk P2.out
  obtain ⟨w5, hw5⟩ : ∃ w5, w5 = w3 := ⟨_, rfl⟩
  subst hw5
  clear d0 d1 d2 d3 d4 d5
  obtain ⟨d0, d1, d2, d3, d4, d5⟩ := P4.out.2.1.cells
  clear wa wb wc wd
  go_wp2_with fail
  clear d0 d1 d2 d3 d4 d5
  refine (renc_no (Fr.mk (x0) (x1) (x2 * 256 + x3) (0) (0) (0)) _ HW.out HS.out).mono ?_
  rintro e w6 ⟨rfl, hb⟩
  have P6 := Aside0.mk (P4.out.below hb)
  clear hb
  obtain ⟨c0, c1, c2, c3, c4, c5⟩ := P6.out.1.cells
  obtain ⟨d0, d1, d2, d3, d4, d5⟩ := P6.out.2.1.cells
  have f0 := P6.out.1.free 0
  have f1 := P6.out.1.free 1
  have f2 := P6.out.1.free 2
  have f3 := P6.out.1.free 3
  have f4 := P6.out.1.free 4
  have f5 := P6.out.1.free 5
  go_wp2_with fail
  refine bodyPost_ret (ret_cell_tmp rfl _ _ w.heap.size 25 _ (0, 0) _ (by rfl) (Box.set6 P6.out.1 _ _ _ _ _ _) Try.underlying25 rfl (by kernel_rfl)) rfl ?_
  exact ⟨rfl, below6 P6.out.2.2 (Nat.le_refl _) _ _ _ _ _ _⟩
set_option maxHeartbeats 4000000 in
set_option maxRecDepth 100000 in
theorem rdec_k_not (ad : Addr) (c : Nat) (l : List Int) (w : World) (hr : ReadsInt w .u8 (some ad) l.length l) (hc : l.length ≤ c) (hl : 6 ≤ l.length) (x0 x1 x2 x3 : Int) (g0 : 0 ≤ x0 ∧ x0 ≤ 255) (q0 : l.getD 0 0 = x0) (g1 : 0 ≤ x1 ∧ x1 ≤ 255) (q1 : l.getD 1 0 = x1) (g2 : 0 ≤ x2 ∧ x2 ≤ 255) (q2 : l.getD 2 0 = x2) (g3 : 0 ≤ x3 ∧ x3 ≤ 255) (q3 : l.getD 3 0 = x3) (hk : ¬ x0 = 1) (hw : (Fr.mk (x0) (x1) (x2 * 256 + x3) (0) (0) (0)).wf) (hs : (Fr.mk (x0) (x1) (x2 * 256 + x3) (0) (0) (0)).sound = true) (hbn : ((strOfNums (Fr.mk (x0) (x1) (x2 * 256 + x3) (0) (0) (0)).bytes).toList != (strOfNums l).toList) = true) (hbn2 : ((strOfNums (Fr.mk (x0) (x1) (x2 * 256 + x3) (0) (0) (0)).bytes).toList == (strOfNums l).toList) = false) :
    Calls Try.prog 20 #[.slice (some ad) l.length c] w (RBack w Fr.zero 30) := by
  have H0 := Aside0.mk hr
  have HL := Aside0.mk hl
  have HW := Aside0.mk hw
  have HS := Aside0.mk hs
  have Q0 := Aside0.mk q0
  have Q1 := Aside0.mk q1
  have Q2 := Aside0.mk q2
  have Q3 := Aside0.mk q3
  have HBN := Aside0.mk hbn
  have HBM := Aside0.mk hbn2
  clear hbn hbn2
  have e0 : decide ((l.length : Int) < 6) = false := decide_eq_false (by omega)
  have eA : (x0 == 1) = false := beq_eq_false_iff_ne.mpr hk
  have i0 : (0 : Int) < (l.length : Int) := by omega
  have n0 : 0 < l.length := by omega
  have n1 : 1 < l.length := by omega
  have n2 : 2 < l.length := by omega
  have n3 : 3 < l.length := by omega
  have i1 : (1 : Int) < (l.length : Int) := by omega
  have i2 : (2 : Int) < (l.length : Int) := by omega
  have i3 : (3 : Int) < (l.length : Int) := by omega
  have wa : IntKind.u16.wrap x2 = x2 := by rw [w16]; omega
  have wb : IntKind.u16.wrap (x2 * 256) = x2 * 256 := by rw [w16]; omega
  have wc : IntKind.u16.wrap x3 = x3 := by rw [w16]; omega
  have wd : IntKind.u16.wrap (x2 * 256 + x3) = x2 * 256 + x3 := by rw [w16]; omega
  clear hr hl hw hs hc hk  q0 q1 q2 q3
  go_enter Try.func20, Try.ntmps20
  go_wp2_with fail
  have B0 := Aside0.mk (below_alloc (Below.refl w.heap.size w) (.cells #[.int .u8 0, .int .u8 0, .int .u16 0, .int .u8 0, .int .u8 0, .int .u32 0] 25))
  refine wp_region_held_drew (S := fun W => W.cell? ad = some (.int .u8 x0) ∧ W.cell? ⟨ad.block, ad.off + 1, none⟩ = some (.int .u8 x1) ∧ W.cell? ⟨ad.block, ad.off + 2, none⟩ = some (.int .u8 x2) ∧ W.cell? ⟨ad.block, ad.off + 3, none⟩ = some (.int .u8 x3)) (by kernel_rfl) ?_ (fun hHeld => ?_)
  · exact rheld (H0.out.below B0.out.drew) HL.out Q0.out Q1.out Q2.out Q3.out
  refine wpAnyH_take (i := 0) (v := ?v0) (rfl) (by kernel_rfl) (by kernel_rfl) (by kernel_rfl) (fun _ _ _ h => h) ?y0 (by assumption) ?r0
  case y0 => first | (refine Or.inr ⟨?_, ?_⟩; rfl; rfl) | (refine Or.inl ⟨?_, ?_⟩; rfl; intro w hSw; (try dsimp only at hSw); go_simp; try with_reducible rfl)
  simp only [Act.put, List.setIfInBounds_toArray, List.set_cons_zero, List.set_cons_succ, List.getElem_toArray, List.getElem_cons_succ, List.getElem_cons_zero]
  refine wpAnyH_take (i := 1) (v := ?v1) (rfl) (by kernel_rfl) (by kernel_rfl) (by kernel_rfl) (fun _ _ _ h => h) ?y1 (by assumption) ?r1
  case y1 => first | (refine Or.inr ⟨?_, ?_⟩; rfl; rfl) | (refine Or.inl ⟨?_, ?_⟩; rfl; intro w hSw; (try dsimp only at hSw); go_simp; try with_reducible rfl)
  simp only [Act.put, List.setIfInBounds_toArray, List.set_cons_zero, List.set_cons_succ, List.getElem_toArray, List.getElem_cons_succ, List.getElem_cons_zero]
  refine wpAnyH_take (i := 2) (v := ?v2) (rfl) (by kernel_rfl) (by kernel_rfl) (by kernel_rfl) (fun _ _ _ h => h) ?y2 (by assumption) ?r2
  case y2 => first | (refine Or.inr ⟨?_, ?_⟩; rfl; rfl) | (refine Or.inl ⟨?_, ?_⟩; rfl; intro w hSw; (try dsimp only at hSw); go_simp; try with_reducible rfl)
  simp only [Act.put, List.setIfInBounds_toArray, List.set_cons_zero, List.set_cons_succ, List.getElem_toArray, List.getElem_cons_succ, List.getElem_cons_zero]
  refine wpAnyH_take (i := 3) (v := ?v3) (rfl) (by kernel_rfl) (by kernel_rfl) (by kernel_rfl) (fun _ _ _ h => h) ?y3 (by assumption) ?r3
  case y3 => first | (refine Or.inr ⟨?_, ?_⟩; rfl; rfl) | (refine Or.inl ⟨?_, ?_⟩; rfl; intro w hSw; (try dsimp only at hSw); go_simp; try with_reducible rfl)
  simp only [Act.put, List.setIfInBounds_toArray, List.set_cons_zero, List.set_cons_succ, List.getElem_toArray, List.getElem_cons_succ, List.getElem_cons_zero]
  refine wpAnyH_take (i := 4) (v := ?v4) (rfl) (by kernel_rfl) (by kernel_rfl) (by kernel_rfl) (fun _ _ _ h => h) ?y4 (by assumption) ?r4
  case y4 => first | (refine Or.inr ⟨?_, ?_⟩; rfl; rfl) | (refine Or.inl ⟨?_, ?_⟩; rfl; intro w hSw; (try dsimp only at hSw); go_simp; try with_reducible rfl)
  simp only [Act.put, List.setIfInBounds_toArray, List.set_cons_zero, List.set_cons_succ, List.getElem_toArray, List.getElem_cons_succ, List.getElem_cons_zero]
  refine wpAnyH_take (i := 5) (v := ?v5) (rfl) (by kernel_rfl) (by kernel_rfl) (by kernel_rfl) (fun _ _ _ h => h) ?y5 (by assumption) ?r5
  case y5 => first | (refine Or.inr ⟨?_, ?_⟩; rfl; rfl) | (refine Or.inl ⟨?_, ?_⟩; rfl; intro w hSw; (try dsimp only at hSw); go_simp; try with_reducible rfl)
  simp only [Act.put, List.setIfInBounds_toArray, List.set_cons_zero, List.set_cons_succ, List.getElem_toArray, List.getElem_cons_succ, List.getElem_cons_zero]
  refine wpAnyH_take (i := 6) (v := ?v6) (rfl) (by kernel_rfl) (by kernel_rfl) (by kernel_rfl) (fun _ _ _ h => h) ?y6 (by assumption) ?r6
  case y6 => first | (refine Or.inr ⟨?_, ?_⟩; rfl; rfl) | (refine Or.inl ⟨?_, ?_⟩; rfl; intro w hSw; (try dsimp only at hSw); go_simp; try with_reducible rfl)
  simp only [Act.put, List.setIfInBounds_toArray, List.set_cons_zero, List.set_cons_succ, List.getElem_toArray, List.getElem_cons_succ, List.getElem_cons_zero]
  refine wpAnyH_take (i := 7) (v := ?v7) (rfl) (by kernel_rfl) (by kernel_rfl) (by kernel_rfl) (fun _ _ _ h => h) ?y7 (by assumption) ?r7
  case y7 => first | (refine Or.inr ⟨?_, ?_⟩; rfl; rfl) | (refine Or.inl ⟨?_, ?_⟩; rfl; intro w hSw; (try dsimp only at hSw); go_simp; try with_reducible rfl)
  simp only [Act.put, List.setIfInBounds_toArray, List.set_cons_zero, List.set_cons_succ, List.getElem_toArray, List.getElem_cons_succ, List.getElem_cons_zero]
  refine wpAnyH_take (i := 8) (v := ?v8) (rfl) (by kernel_rfl) (by kernel_rfl) (by kernel_rfl) (fun _ _ _ h => h) ?y8 (by assumption) ?r8
  case y8 => first | (refine Or.inr ⟨?_, ?_⟩; rfl; rfl) | (refine Or.inl ⟨?_, ?_⟩; rfl; intro w hSw; (try dsimp only at hSw); go_simp; try with_reducible rfl)
  simp only [Act.put, List.setIfInBounds_toArray, List.set_cons_zero, List.set_cons_succ, List.getElem_toArray, List.getElem_cons_succ, List.getElem_cons_zero]
  refine wpAnyH_take (i := 9) (v := ?v9) (rfl) (by kernel_rfl) (by kernel_rfl) (by kernel_rfl) (fun _ _ _ h => h) ?y9 (by assumption) ?r9
  case y9 => first | (refine Or.inr ⟨?_, ?_⟩; rfl; rfl) | (refine Or.inl ⟨?_, ?_⟩; rfl; intro w hSw; (try dsimp only at hSw); go_simp; try with_reducible rfl)
  simp only [Act.put, List.setIfInBounds_toArray, List.set_cons_zero, List.set_cons_succ, List.getElem_toArray, List.getElem_cons_succ, List.getElem_cons_zero]
  refine wpAnyH_take (i := 10) (v := ?v10) (rfl) (by kernel_rfl) (by kernel_rfl) (by kernel_rfl) (fun _ _ _ h => h) ?y10 (by assumption) ?r10
  case y10 => first | (refine Or.inr ⟨?_, ?_⟩; rfl; rfl) | (refine Or.inl ⟨?_, ?_⟩; rfl; intro w hSw; (try dsimp only at hSw); go_simp; try with_reducible rfl)
  simp only [Act.put, List.setIfInBounds_toArray, List.set_cons_zero, List.set_cons_succ, List.getElem_toArray, List.getElem_cons_succ, List.getElem_cons_zero]
  refine wpAnyH_take (i := 11) (v := ?v11) (rfl) (by kernel_rfl) (by kernel_rfl) (by kernel_rfl) (fun _ _ _ h => h) ?y11 (by assumption) ?r11
  case y11 => first | (refine Or.inr ⟨?_, ?_⟩; rfl; rfl) | (refine Or.inl ⟨?_, ?_⟩; rfl; intro w hSw; (try dsimp only at hSw); go_simp; try with_reducible rfl)
  simp only [Act.put, List.setIfInBounds_toArray, List.set_cons_zero, List.set_cons_succ, List.getElem_toArray, List.getElem_cons_succ, List.getElem_cons_zero]
  refine wpAnyH_take (i := 12) (v := ?v12) (rfl) (by kernel_rfl) (by kernel_rfl) (by kernel_rfl) (fun _ _ _ h => h) ?y12 (by assumption) ?r12
  case y12 => first | (refine Or.inr ⟨?_, ?_⟩; rfl; rfl) | (refine Or.inl ⟨?_, ?_⟩; rfl; intro w hSw; (try dsimp only at hSw); go_simp; try with_reducible rfl)
  simp only [Act.put, List.setIfInBounds_toArray, List.set_cons_zero, List.set_cons_succ, List.getElem_toArray, List.getElem_cons_succ, List.getElem_cons_zero]
  refine wpAnyH_take (i := 13) (v := ?v13) (rfl) (by kernel_rfl) (by kernel_rfl) (by kernel_rfl) (fun _ _ _ h => h) ?y13 (by assumption) ?r13
  case y13 => first | (refine Or.inr ⟨?_, ?_⟩; rfl; rfl) | (refine Or.inl ⟨?_, ?_⟩; rfl; intro w hSw; (try dsimp only at hSw); go_simp; try with_reducible rfl)
  simp only [Act.put, List.setIfInBounds_toArray, List.set_cons_zero, List.set_cons_succ, List.getElem_toArray, List.getElem_cons_succ, List.getElem_cons_zero]
  refine wpAnyH_take (i := 14) (v := ?v14) (rfl) (by kernel_rfl) (by kernel_rfl) (by kernel_rfl) (fun _ _ _ h => h) ?y14 (by assumption) ?r14
  case y14 => first | (refine Or.inr ⟨?_, ?_⟩; rfl; rfl) | (refine Or.inl ⟨?_, ?_⟩; rfl; intro w hSw; (try dsimp only at hSw); go_simp; try with_reducible rfl)
  simp only [Act.put, List.setIfInBounds_toArray, List.set_cons_zero, List.set_cons_succ, List.getElem_toArray, List.getElem_cons_succ, List.getElem_cons_zero]
  refine wpAnyH_take (i := 15) (v := ?v15) (rfl) (by kernel_rfl) (by kernel_rfl) (by kernel_rfl) (fun _ _ _ h => h) ?y15 (by assumption) ?r15
  case y15 => first | (refine Or.inr ⟨?_, ?_⟩; rfl; rfl) | (refine Or.inl ⟨?_, ?_⟩; rfl; intro w hSw; (try dsimp only at hSw); go_simp; try with_reducible rfl)
  simp only [Act.put, List.setIfInBounds_toArray, List.set_cons_zero, List.set_cons_succ, List.getElem_toArray, List.getElem_cons_succ, List.getElem_cons_zero]
  refine wpAnyH_take (i := 16) (v := ?v16) (rfl) (by kernel_rfl) (by kernel_rfl) (by kernel_rfl) (fun _ _ _ h => h) ?y16 (by assumption) ?r16
  case y16 => first | (refine Or.inr ⟨?_, ?_⟩; rfl; rfl) | (refine Or.inl ⟨?_, ?_⟩; rfl; intro w hSw; (try dsimp only at hSw); go_simp; try with_reducible rfl)
  simp only [Act.put, List.setIfInBounds_toArray, List.set_cons_zero, List.set_cons_succ, List.getElem_toArray, List.getElem_cons_succ, List.getElem_cons_zero]
  refine wpAnyH_ready (rs := [17]) (by kernel_rfl) (by simp) ?_
  refine AllReadyH.cons rfl (fun K hK => ?_) AllReadyH.nil
  go_simp
  try clear hHeld
  refine hK.out _ _ (rheld (H0.out.below (below_alloc B0.out.drew _)) HL.out Q0.out Q1.out Q2.out Q3.out) (fun hHeld => ?_)
  clear hK K
  try simp only [Act.put, List.setIfInBounds_toArray, List.set_cons_zero, List.set_cons_succ, List.getElem_toArray, List.getElem_cons_succ, List.getElem_cons_zero]
  have P2 := Aside0.mk (Pair.newer w x0 x1 (x2 * 256 + x3) 0 0 0)
  refine wpAnyH_ready (rs := [18]) (by kernel_rfl) (by simp) ?_
  refine AllReadyH.cons rfl (fun K hK => ?_) AllReadyH.nil
  go_simp
  try clear hHeld
  refine hK.out _ _ (rheld (P2.out.reads H0.out) HL.out Q0.out Q1.out Q2.out Q3.out) (fun hHeld => ?_)
  clear hK K
  try simp only [Act.put, List.setIfInBounds_toArray, List.set_cons_zero, List.set_cons_succ, List.getElem_toArray, List.getElem_cons_succ, List.getElem_cons_zero]
  refine wpAnyH_done (by kernel_rfl) ?_ _
  clear hHeld
  generalize ((w.alloc (.cells #[.int .u8 0, .int .u8 0, .int .u16 0, .int .u8 0, .int .u8 0, .int .u32 0] 25)).alloc (.cells #[.int .u8 x0, .int .u8 x1, .int .u16 (x2 * 256 + x3), .int .u8 0, .int .u8 0, .int .u32 0] 25)).drew = w3 at P2 ⊢
  obtain ⟨d0, d1, d2, d3, d4, d5⟩ := P2.out.2.1.cells
  have P4 := Aside0.mk P2.out
  obtain ⟨w5, hw5⟩ : ∃ w5, w5 = w3 := ⟨_, rfl⟩
  subst hw5
  clear d0 d1 d2 d3 d4 d5
  obtain ⟨d0, d1, d2, d3, d4, d5⟩ := P4.out.2.1.cells
  clear wa wb wc wd
  go_wp2_with fail
  clear d0 d1 d2 d3 d4 d5
  refine (renc_fr (Fr.mk (x0) (x1) (x2 * 256 + x3) (0) (0) (0)) _ HW.out HS.out).mono ?_
  rintro e w6 ⟨base, v, rfl, R⟩
  obtain ⟨A', c', rfl, hr', -, -⟩ := R.slice
  have P6 := Aside0.mk (P4.out.below R.bel)
  have C1 : (convert 27 9 (.slice A' (Fr.mk (x0) (x1) (x2 * 256 + x3) (0) (0) (0)).bytes.length c')).run Try.prog w6 = .ok (.string (strOfNums (Fr.mk (x0) (x1) (x2 * 256 + x3) (0) (0) (0)).bytes)) w6 := string_of_reads Try.underlying27 Try.underlying5 Try.underlying9 (h := hr')
  have C2 : (convert 27 9 (.slice (some ad) l.length c)).run Try.prog w6 = .ok (.string (strOfNums l)) w6 := string_of_reads Try.underlying27 Try.underlying5 Try.underlying9 (h := P6.out.reads H0.out)
  clear R hr'
  have N1 := HBN.out
  have N2 := HBM.out
  obtain ⟨c0, c1, c2, c3, c4, c5⟩ := P6.out.1.cells
  obtain ⟨d0, d1, d2, d3, d4, d5⟩ := P6.out.2.1.cells
  have f0 := P6.out.1.free 0
  have f1 := P6.out.1.free 1
  have f2 := P6.out.1.free 2
  have f3 := P6.out.1.free 3
  have f4 := P6.out.1.free 4
  have f5 := P6.out.1.free 5
  go_wp2_with fail
  refine bodyPost_ret (ret_cell_tmp rfl _ _ w.heap.size 25 _ (0, 0) _ (by rfl) (Box.set6 P6.out.1 _ _ _ _ _ _) Try.underlying25 rfl (by kernel_rfl)) rfl ?_
  exact ⟨rfl, below6 P6.out.2.2 (Nat.le_refl _) _ _ _ _ _ _⟩
set_option maxHeartbeats 4000000 in
set_option maxRecDepth 100000 in
theorem rdec_k_yes (ad : Addr) (c : Nat) (l : List Int) (w : World) (hr : ReadsInt w .u8 (some ad) l.length l) (hc : l.length ≤ c) (hl : 6 ≤ l.length) (x0 x1 x2 x3 : Int) (g0 : 0 ≤ x0 ∧ x0 ≤ 255) (q0 : l.getD 0 0 = x0) (g1 : 0 ≤ x1 ∧ x1 ≤ 255) (q1 : l.getD 1 0 = x1) (g2 : 0 ≤ x2 ∧ x2 ≤ 255) (q2 : l.getD 2 0 = x2) (g3 : 0 ≤ x3 ∧ x3 ≤ 255) (q3 : l.getD 3 0 = x3) (hk : ¬ x0 = 1) (hw : (Fr.mk (x0) (x1) (x2 * 256 + x3) (0) (0) (0)).wf) (hs : (Fr.mk (x0) (x1) (x2 * 256 + x3) (0) (0) (0)).sound = true) (hby : (Fr.mk (x0) (x1) (x2 * 256 + x3) (0) (0) (0)).bytes = l) :
    Calls Try.prog 20 #[.slice (some ad) l.length c] w (RBack w (Fr.mk (x0) (x1) (x2 * 256 + x3) (0) (0) (0)) 0) := by
  have H0 := Aside0.mk hr
  have HL := Aside0.mk hl
  have HW := Aside0.mk hw
  have HS := Aside0.mk hs
  have Q0 := Aside0.mk q0
  have Q1 := Aside0.mk q1
  have Q2 := Aside0.mk q2
  have Q3 := Aside0.mk q3
  have HBY := Aside0.mk hby
  clear hby
  have e0 : decide ((l.length : Int) < 6) = false := decide_eq_false (by omega)
  have eA : (x0 == 1) = false := beq_eq_false_iff_ne.mpr hk
  have i0 : (0 : Int) < (l.length : Int) := by omega
  have n0 : 0 < l.length := by omega
  have n1 : 1 < l.length := by omega
  have n2 : 2 < l.length := by omega
  have n3 : 3 < l.length := by omega
  have i1 : (1 : Int) < (l.length : Int) := by omega
  have i2 : (2 : Int) < (l.length : Int) := by omega
  have i3 : (3 : Int) < (l.length : Int) := by omega
  have wa : IntKind.u16.wrap x2 = x2 := by rw [w16]; omega
  have wb : IntKind.u16.wrap (x2 * 256) = x2 * 256 := by rw [w16]; omega
  have wc : IntKind.u16.wrap x3 = x3 := by rw [w16]; omega
  have wd : IntKind.u16.wrap (x2 * 256 + x3) = x2 * 256 + x3 := by rw [w16]; omega
  clear hr hl hw hs hc hk  q0 q1 q2 q3
  go_enter Try.func20, Try.ntmps20
  go_wp2_with fail
  have B0 := Aside0.mk (below_alloc (Below.refl w.heap.size w) (.cells #[.int .u8 0, .int .u8 0, .int .u16 0, .int .u8 0, .int .u8 0, .int .u32 0] 25))
  refine wp_region_held_drew (S := fun W => W.cell? ad = some (.int .u8 x0) ∧ W.cell? ⟨ad.block, ad.off + 1, none⟩ = some (.int .u8 x1) ∧ W.cell? ⟨ad.block, ad.off + 2, none⟩ = some (.int .u8 x2) ∧ W.cell? ⟨ad.block, ad.off + 3, none⟩ = some (.int .u8 x3)) (by kernel_rfl) ?_ (fun hHeld => ?_)
  · exact rheld (H0.out.below B0.out.drew) HL.out Q0.out Q1.out Q2.out Q3.out
  refine wpAnyH_take (i := 0) (v := ?v0) (rfl) (by kernel_rfl) (by kernel_rfl) (by kernel_rfl) (fun _ _ _ h => h) ?y0 (by assumption) ?r0
  case y0 => first | (refine Or.inr ⟨?_, ?_⟩; rfl; rfl) | (refine Or.inl ⟨?_, ?_⟩; rfl; intro w hSw; (try dsimp only at hSw); go_simp; try with_reducible rfl)
  simp only [Act.put, List.setIfInBounds_toArray, List.set_cons_zero, List.set_cons_succ, List.getElem_toArray, List.getElem_cons_succ, List.getElem_cons_zero]
  refine wpAnyH_take (i := 1) (v := ?v1) (rfl) (by kernel_rfl) (by kernel_rfl) (by kernel_rfl) (fun _ _ _ h => h) ?y1 (by assumption) ?r1
  case y1 => first | (refine Or.inr ⟨?_, ?_⟩; rfl; rfl) | (refine Or.inl ⟨?_, ?_⟩; rfl; intro w hSw; (try dsimp only at hSw); go_simp; try with_reducible rfl)
  simp only [Act.put, List.setIfInBounds_toArray, List.set_cons_zero, List.set_cons_succ, List.getElem_toArray, List.getElem_cons_succ, List.getElem_cons_zero]
  refine wpAnyH_take (i := 2) (v := ?v2) (rfl) (by kernel_rfl) (by kernel_rfl) (by kernel_rfl) (fun _ _ _ h => h) ?y2 (by assumption) ?r2
  case y2 => first | (refine Or.inr ⟨?_, ?_⟩; rfl; rfl) | (refine Or.inl ⟨?_, ?_⟩; rfl; intro w hSw; (try dsimp only at hSw); go_simp; try with_reducible rfl)
  simp only [Act.put, List.setIfInBounds_toArray, List.set_cons_zero, List.set_cons_succ, List.getElem_toArray, List.getElem_cons_succ, List.getElem_cons_zero]
  refine wpAnyH_take (i := 3) (v := ?v3) (rfl) (by kernel_rfl) (by kernel_rfl) (by kernel_rfl) (fun _ _ _ h => h) ?y3 (by assumption) ?r3
  case y3 => first | (refine Or.inr ⟨?_, ?_⟩; rfl; rfl) | (refine Or.inl ⟨?_, ?_⟩; rfl; intro w hSw; (try dsimp only at hSw); go_simp; try with_reducible rfl)
  simp only [Act.put, List.setIfInBounds_toArray, List.set_cons_zero, List.set_cons_succ, List.getElem_toArray, List.getElem_cons_succ, List.getElem_cons_zero]
  refine wpAnyH_take (i := 4) (v := ?v4) (rfl) (by kernel_rfl) (by kernel_rfl) (by kernel_rfl) (fun _ _ _ h => h) ?y4 (by assumption) ?r4
  case y4 => first | (refine Or.inr ⟨?_, ?_⟩; rfl; rfl) | (refine Or.inl ⟨?_, ?_⟩; rfl; intro w hSw; (try dsimp only at hSw); go_simp; try with_reducible rfl)
  simp only [Act.put, List.setIfInBounds_toArray, List.set_cons_zero, List.set_cons_succ, List.getElem_toArray, List.getElem_cons_succ, List.getElem_cons_zero]
  refine wpAnyH_take (i := 5) (v := ?v5) (rfl) (by kernel_rfl) (by kernel_rfl) (by kernel_rfl) (fun _ _ _ h => h) ?y5 (by assumption) ?r5
  case y5 => first | (refine Or.inr ⟨?_, ?_⟩; rfl; rfl) | (refine Or.inl ⟨?_, ?_⟩; rfl; intro w hSw; (try dsimp only at hSw); go_simp; try with_reducible rfl)
  simp only [Act.put, List.setIfInBounds_toArray, List.set_cons_zero, List.set_cons_succ, List.getElem_toArray, List.getElem_cons_succ, List.getElem_cons_zero]
  refine wpAnyH_take (i := 6) (v := ?v6) (rfl) (by kernel_rfl) (by kernel_rfl) (by kernel_rfl) (fun _ _ _ h => h) ?y6 (by assumption) ?r6
  case y6 => first | (refine Or.inr ⟨?_, ?_⟩; rfl; rfl) | (refine Or.inl ⟨?_, ?_⟩; rfl; intro w hSw; (try dsimp only at hSw); go_simp; try with_reducible rfl)
  simp only [Act.put, List.setIfInBounds_toArray, List.set_cons_zero, List.set_cons_succ, List.getElem_toArray, List.getElem_cons_succ, List.getElem_cons_zero]
  refine wpAnyH_take (i := 7) (v := ?v7) (rfl) (by kernel_rfl) (by kernel_rfl) (by kernel_rfl) (fun _ _ _ h => h) ?y7 (by assumption) ?r7
  case y7 => first | (refine Or.inr ⟨?_, ?_⟩; rfl; rfl) | (refine Or.inl ⟨?_, ?_⟩; rfl; intro w hSw; (try dsimp only at hSw); go_simp; try with_reducible rfl)
  simp only [Act.put, List.setIfInBounds_toArray, List.set_cons_zero, List.set_cons_succ, List.getElem_toArray, List.getElem_cons_succ, List.getElem_cons_zero]
  refine wpAnyH_take (i := 8) (v := ?v8) (rfl) (by kernel_rfl) (by kernel_rfl) (by kernel_rfl) (fun _ _ _ h => h) ?y8 (by assumption) ?r8
  case y8 => first | (refine Or.inr ⟨?_, ?_⟩; rfl; rfl) | (refine Or.inl ⟨?_, ?_⟩; rfl; intro w hSw; (try dsimp only at hSw); go_simp; try with_reducible rfl)
  simp only [Act.put, List.setIfInBounds_toArray, List.set_cons_zero, List.set_cons_succ, List.getElem_toArray, List.getElem_cons_succ, List.getElem_cons_zero]
  refine wpAnyH_take (i := 9) (v := ?v9) (rfl) (by kernel_rfl) (by kernel_rfl) (by kernel_rfl) (fun _ _ _ h => h) ?y9 (by assumption) ?r9
  case y9 => first | (refine Or.inr ⟨?_, ?_⟩; rfl; rfl) | (refine Or.inl ⟨?_, ?_⟩; rfl; intro w hSw; (try dsimp only at hSw); go_simp; try with_reducible rfl)
  simp only [Act.put, List.setIfInBounds_toArray, List.set_cons_zero, List.set_cons_succ, List.getElem_toArray, List.getElem_cons_succ, List.getElem_cons_zero]
  refine wpAnyH_take (i := 10) (v := ?v10) (rfl) (by kernel_rfl) (by kernel_rfl) (by kernel_rfl) (fun _ _ _ h => h) ?y10 (by assumption) ?r10
  case y10 => first | (refine Or.inr ⟨?_, ?_⟩; rfl; rfl) | (refine Or.inl ⟨?_, ?_⟩; rfl; intro w hSw; (try dsimp only at hSw); go_simp; try with_reducible rfl)
  simp only [Act.put, List.setIfInBounds_toArray, List.set_cons_zero, List.set_cons_succ, List.getElem_toArray, List.getElem_cons_succ, List.getElem_cons_zero]
  refine wpAnyH_take (i := 11) (v := ?v11) (rfl) (by kernel_rfl) (by kernel_rfl) (by kernel_rfl) (fun _ _ _ h => h) ?y11 (by assumption) ?r11
  case y11 => first | (refine Or.inr ⟨?_, ?_⟩; rfl; rfl) | (refine Or.inl ⟨?_, ?_⟩; rfl; intro w hSw; (try dsimp only at hSw); go_simp; try with_reducible rfl)
  simp only [Act.put, List.setIfInBounds_toArray, List.set_cons_zero, List.set_cons_succ, List.getElem_toArray, List.getElem_cons_succ, List.getElem_cons_zero]
  refine wpAnyH_take (i := 12) (v := ?v12) (rfl) (by kernel_rfl) (by kernel_rfl) (by kernel_rfl) (fun _ _ _ h => h) ?y12 (by assumption) ?r12
  case y12 => first | (refine Or.inr ⟨?_, ?_⟩; rfl; rfl) | (refine Or.inl ⟨?_, ?_⟩; rfl; intro w hSw; (try dsimp only at hSw); go_simp; try with_reducible rfl)
  simp only [Act.put, List.setIfInBounds_toArray, List.set_cons_zero, List.set_cons_succ, List.getElem_toArray, List.getElem_cons_succ, List.getElem_cons_zero]
  refine wpAnyH_take (i := 13) (v := ?v13) (rfl) (by kernel_rfl) (by kernel_rfl) (by kernel_rfl) (fun _ _ _ h => h) ?y13 (by assumption) ?r13
  case y13 => first | (refine Or.inr ⟨?_, ?_⟩; rfl; rfl) | (refine Or.inl ⟨?_, ?_⟩; rfl; intro w hSw; (try dsimp only at hSw); go_simp; try with_reducible rfl)
  simp only [Act.put, List.setIfInBounds_toArray, List.set_cons_zero, List.set_cons_succ, List.getElem_toArray, List.getElem_cons_succ, List.getElem_cons_zero]
  refine wpAnyH_take (i := 14) (v := ?v14) (rfl) (by kernel_rfl) (by kernel_rfl) (by kernel_rfl) (fun _ _ _ h => h) ?y14 (by assumption) ?r14
  case y14 => first | (refine Or.inr ⟨?_, ?_⟩; rfl; rfl) | (refine Or.inl ⟨?_, ?_⟩; rfl; intro w hSw; (try dsimp only at hSw); go_simp; try with_reducible rfl)
  simp only [Act.put, List.setIfInBounds_toArray, List.set_cons_zero, List.set_cons_succ, List.getElem_toArray, List.getElem_cons_succ, List.getElem_cons_zero]
  refine wpAnyH_take (i := 15) (v := ?v15) (rfl) (by kernel_rfl) (by kernel_rfl) (by kernel_rfl) (fun _ _ _ h => h) ?y15 (by assumption) ?r15
  case y15 => first | (refine Or.inr ⟨?_, ?_⟩; rfl; rfl) | (refine Or.inl ⟨?_, ?_⟩; rfl; intro w hSw; (try dsimp only at hSw); go_simp; try with_reducible rfl)
  simp only [Act.put, List.setIfInBounds_toArray, List.set_cons_zero, List.set_cons_succ, List.getElem_toArray, List.getElem_cons_succ, List.getElem_cons_zero]
  refine wpAnyH_take (i := 16) (v := ?v16) (rfl) (by kernel_rfl) (by kernel_rfl) (by kernel_rfl) (fun _ _ _ h => h) ?y16 (by assumption) ?r16
  case y16 => first | (refine Or.inr ⟨?_, ?_⟩; rfl; rfl) | (refine Or.inl ⟨?_, ?_⟩; rfl; intro w hSw; (try dsimp only at hSw); go_simp; try with_reducible rfl)
  simp only [Act.put, List.setIfInBounds_toArray, List.set_cons_zero, List.set_cons_succ, List.getElem_toArray, List.getElem_cons_succ, List.getElem_cons_zero]
  refine wpAnyH_ready (rs := [17]) (by kernel_rfl) (by simp) ?_
  refine AllReadyH.cons rfl (fun K hK => ?_) AllReadyH.nil
  go_simp
  try clear hHeld
  refine hK.out _ _ (rheld (H0.out.below (below_alloc B0.out.drew _)) HL.out Q0.out Q1.out Q2.out Q3.out) (fun hHeld => ?_)
  clear hK K
  try simp only [Act.put, List.setIfInBounds_toArray, List.set_cons_zero, List.set_cons_succ, List.getElem_toArray, List.getElem_cons_succ, List.getElem_cons_zero]
  have P2 := Aside0.mk (Pair.newer w x0 x1 (x2 * 256 + x3) 0 0 0)
  refine wpAnyH_ready (rs := [18]) (by kernel_rfl) (by simp) ?_
  refine AllReadyH.cons rfl (fun K hK => ?_) AllReadyH.nil
  go_simp
  try clear hHeld
  refine hK.out _ _ (rheld (P2.out.reads H0.out) HL.out Q0.out Q1.out Q2.out Q3.out) (fun hHeld => ?_)
  clear hK K
  try simp only [Act.put, List.setIfInBounds_toArray, List.set_cons_zero, List.set_cons_succ, List.getElem_toArray, List.getElem_cons_succ, List.getElem_cons_zero]
  refine wpAnyH_done (by kernel_rfl) ?_ _
  clear hHeld
  generalize ((w.alloc (.cells #[.int .u8 0, .int .u8 0, .int .u16 0, .int .u8 0, .int .u8 0, .int .u32 0] 25)).alloc (.cells #[.int .u8 x0, .int .u8 x1, .int .u16 (x2 * 256 + x3), .int .u8 0, .int .u8 0, .int .u32 0] 25)).drew = w3 at P2 ⊢
  obtain ⟨d0, d1, d2, d3, d4, d5⟩ := P2.out.2.1.cells
  have P4 := Aside0.mk P2.out
  obtain ⟨w5, hw5⟩ : ∃ w5, w5 = w3 := ⟨_, rfl⟩
  subst hw5
  clear d0 d1 d2 d3 d4 d5
  obtain ⟨d0, d1, d2, d3, d4, d5⟩ := P4.out.2.1.cells
  clear wa wb wc wd
  go_wp2_with fail
  clear d0 d1 d2 d3 d4 d5
  refine (renc_fr (Fr.mk (x0) (x1) (x2 * 256 + x3) (0) (0) (0)) _ HW.out HS.out).mono ?_
  rintro e w6 ⟨base, v, rfl, R⟩
  obtain ⟨A', c', rfl, hr', -, -⟩ := R.slice
  have P6 := Aside0.mk (P4.out.below R.bel)
  have C1 : (convert 27 9 (.slice A' (Fr.mk (x0) (x1) (x2 * 256 + x3) (0) (0) (0)).bytes.length c')).run Try.prog w6 = .ok (.string (strOfNums (Fr.mk (x0) (x1) (x2 * 256 + x3) (0) (0) (0)).bytes)) w6 := string_of_reads Try.underlying27 Try.underlying5 Try.underlying9 (h := hr')
  have C2 : (convert 27 9 (.slice (some ad) l.length c)).run Try.prog w6 = .ok (.string (strOfNums l)) w6 := string_of_reads Try.underlying27 Try.underlying5 Try.underlying9 (h := P6.out.reads H0.out)
  clear R hr'
  rw [HBY.out] at C1 ⊢
  obtain ⟨c0, c1, c2, c3, c4, c5⟩ := P6.out.1.cells
  obtain ⟨d0, d1, d2, d3, d4, d5⟩ := P6.out.2.1.cells
  have f0 := P6.out.1.free 0
  have f1 := P6.out.1.free 1
  have f2 := P6.out.1.free 2
  have f3 := P6.out.1.free 3
  have f4 := P6.out.1.free 4
  have f5 := P6.out.1.free 5
  go_wp2_with fail
  refine bodyPost_ret (ret_cell_tmp rfl _ _ w.heap.size 25 _ (0, 0) _ (by rfl) (Box.set6 P6.out.1 _ _ _ _ _ _) Try.underlying25 rfl (by kernel_rfl)) rfl ?_
  exact ⟨rfl, below6 P6.out.2.2 (Nat.le_refl _) _ _ _ _ _ _⟩
set_option maxHeartbeats 4000000 in
set_option maxRecDepth 100000 in
theorem rdec_n_bad (ad : Addr) (c : Nat) (l : List Int) (w : World) (hr : ReadsInt w .u8 (some ad) l.length l) (hc : l.length ≤ c) (hl : 6 ≤ l.length) (x0 x1 x2 x3 : Int) (g0 : 0 ≤ x0 ∧ x0 ≤ 255) (q0 : l.getD 0 0 = x0) (g1 : 0 ≤ x1 ∧ x1 ≤ 255) (q1 : l.getD 1 0 = x1) (g2 : 0 ≤ x2 ∧ x2 ≤ 255) (q2 : l.getD 2 0 = x2) (g3 : 0 ≤ x3 ∧ x3 ≤ 255) (q3 : l.getD 3 0 = x3) (hk : x0 = 1) (hl2 : ¬ 12 ≤ l.length) (hw : (Fr.mk (x0) (x1) (x2 * 256 + x3) (0) (0) (0)).wf) (hs : (Fr.mk (x0) (x1) (x2 * 256 + x3) (0) (0) (0)).sound = false) :
    Calls Try.prog 20 #[.slice (some ad) l.length c] w (RBack w Fr.zero 30) := by
  have H0 := Aside0.mk hr
  have HL := Aside0.mk hl
  have HW := Aside0.mk hw
  have HS := Aside0.mk hs
  have Q0 := Aside0.mk q0
  have Q1 := Aside0.mk q1
  have Q2 := Aside0.mk q2
  have Q3 := Aside0.mk q3
  have e0 : decide ((l.length : Int) < 6) = false := decide_eq_false (by omega)
  have eA : (x0 == 1) = true := beq_iff_eq.mpr hk
  have eB : decide ((l.length : Int) ≥ 12) = false := decide_eq_false (by omega)
  have i0 : (0 : Int) < (l.length : Int) := by omega
  have n0 : 0 < l.length := by omega
  have n1 : 1 < l.length := by omega
  have n2 : 2 < l.length := by omega
  have n3 : 3 < l.length := by omega
  have i1 : (1 : Int) < (l.length : Int) := by omega
  have i2 : (2 : Int) < (l.length : Int) := by omega
  have i3 : (3 : Int) < (l.length : Int) := by omega
  have wa : IntKind.u16.wrap x2 = x2 := by rw [w16]; omega
  have wb : IntKind.u16.wrap (x2 * 256) = x2 * 256 := by rw [w16]; omega
  have wc : IntKind.u16.wrap x3 = x3 := by rw [w16]; omega
  have wd : IntKind.u16.wrap (x2 * 256 + x3) = x2 * 256 + x3 := by rw [w16]; omega
  clear hr hl hw hs hc hk hl2 q0 q1 q2 q3
  go_enter Try.func20, Try.ntmps20
  go_wp2_with fail
  have B0 := Aside0.mk (below_alloc (Below.refl w.heap.size w) (.cells #[.int .u8 0, .int .u8 0, .int .u16 0, .int .u8 0, .int .u8 0, .int .u32 0] 25))
  refine wp_region_held_drew (S := fun W => W.cell? ad = some (.int .u8 x0) ∧ W.cell? ⟨ad.block, ad.off + 1, none⟩ = some (.int .u8 x1) ∧ W.cell? ⟨ad.block, ad.off + 2, none⟩ = some (.int .u8 x2) ∧ W.cell? ⟨ad.block, ad.off + 3, none⟩ = some (.int .u8 x3)) (by kernel_rfl) ?_ (fun hHeld => ?_)
  · exact rheld (H0.out.below B0.out.drew) HL.out Q0.out Q1.out Q2.out Q3.out
  refine wpAnyH_take (i := 0) (v := ?v0) (rfl) (by kernel_rfl) (by kernel_rfl) (by kernel_rfl) (fun _ _ _ h => h) ?y0 (by assumption) ?r0
  case y0 => first | (refine Or.inr ⟨?_, ?_⟩; rfl; rfl) | (refine Or.inl ⟨?_, ?_⟩; rfl; intro w hSw; (try dsimp only at hSw); go_simp; try with_reducible rfl)
  simp only [Act.put, List.setIfInBounds_toArray, List.set_cons_zero, List.set_cons_succ, List.getElem_toArray, List.getElem_cons_succ, List.getElem_cons_zero]
  refine wpAnyH_take (i := 1) (v := ?v1) (rfl) (by kernel_rfl) (by kernel_rfl) (by kernel_rfl) (fun _ _ _ h => h) ?y1 (by assumption) ?r1
  case y1 => first | (refine Or.inr ⟨?_, ?_⟩; rfl; rfl) | (refine Or.inl ⟨?_, ?_⟩; rfl; intro w hSw; (try dsimp only at hSw); go_simp; try with_reducible rfl)
  simp only [Act.put, List.setIfInBounds_toArray, List.set_cons_zero, List.set_cons_succ, List.getElem_toArray, List.getElem_cons_succ, List.getElem_cons_zero]
  refine wpAnyH_take (i := 2) (v := ?v2) (rfl) (by kernel_rfl) (by kernel_rfl) (by kernel_rfl) (fun _ _ _ h => h) ?y2 (by assumption) ?r2
  case y2 => first | (refine Or.inr ⟨?_, ?_⟩; rfl; rfl) | (refine Or.inl ⟨?_, ?_⟩; rfl; intro w hSw; (try dsimp only at hSw); go_simp; try with_reducible rfl)
  simp only [Act.put, List.setIfInBounds_toArray, List.set_cons_zero, List.set_cons_succ, List.getElem_toArray, List.getElem_cons_succ, List.getElem_cons_zero]
  refine wpAnyH_take (i := 3) (v := ?v3) (rfl) (by kernel_rfl) (by kernel_rfl) (by kernel_rfl) (fun _ _ _ h => h) ?y3 (by assumption) ?r3
  case y3 => first | (refine Or.inr ⟨?_, ?_⟩; rfl; rfl) | (refine Or.inl ⟨?_, ?_⟩; rfl; intro w hSw; (try dsimp only at hSw); go_simp; try with_reducible rfl)
  simp only [Act.put, List.setIfInBounds_toArray, List.set_cons_zero, List.set_cons_succ, List.getElem_toArray, List.getElem_cons_succ, List.getElem_cons_zero]
  refine wpAnyH_take (i := 4) (v := ?v4) (rfl) (by kernel_rfl) (by kernel_rfl) (by kernel_rfl) (fun _ _ _ h => h) ?y4 (by assumption) ?r4
  case y4 => first | (refine Or.inr ⟨?_, ?_⟩; rfl; rfl) | (refine Or.inl ⟨?_, ?_⟩; rfl; intro w hSw; (try dsimp only at hSw); go_simp; try with_reducible rfl)
  simp only [Act.put, List.setIfInBounds_toArray, List.set_cons_zero, List.set_cons_succ, List.getElem_toArray, List.getElem_cons_succ, List.getElem_cons_zero]
  refine wpAnyH_take (i := 5) (v := ?v5) (rfl) (by kernel_rfl) (by kernel_rfl) (by kernel_rfl) (fun _ _ _ h => h) ?y5 (by assumption) ?r5
  case y5 => first | (refine Or.inr ⟨?_, ?_⟩; rfl; rfl) | (refine Or.inl ⟨?_, ?_⟩; rfl; intro w hSw; (try dsimp only at hSw); go_simp; try with_reducible rfl)
  simp only [Act.put, List.setIfInBounds_toArray, List.set_cons_zero, List.set_cons_succ, List.getElem_toArray, List.getElem_cons_succ, List.getElem_cons_zero]
  refine wpAnyH_take (i := 6) (v := ?v6) (rfl) (by kernel_rfl) (by kernel_rfl) (by kernel_rfl) (fun _ _ _ h => h) ?y6 (by assumption) ?r6
  case y6 => first | (refine Or.inr ⟨?_, ?_⟩; rfl; rfl) | (refine Or.inl ⟨?_, ?_⟩; rfl; intro w hSw; (try dsimp only at hSw); go_simp; try with_reducible rfl)
  simp only [Act.put, List.setIfInBounds_toArray, List.set_cons_zero, List.set_cons_succ, List.getElem_toArray, List.getElem_cons_succ, List.getElem_cons_zero]
  refine wpAnyH_take (i := 7) (v := ?v7) (rfl) (by kernel_rfl) (by kernel_rfl) (by kernel_rfl) (fun _ _ _ h => h) ?y7 (by assumption) ?r7
  case y7 => first | (refine Or.inr ⟨?_, ?_⟩; rfl; rfl) | (refine Or.inl ⟨?_, ?_⟩; rfl; intro w hSw; (try dsimp only at hSw); go_simp; try with_reducible rfl)
  simp only [Act.put, List.setIfInBounds_toArray, List.set_cons_zero, List.set_cons_succ, List.getElem_toArray, List.getElem_cons_succ, List.getElem_cons_zero]
  refine wpAnyH_take (i := 8) (v := ?v8) (rfl) (by kernel_rfl) (by kernel_rfl) (by kernel_rfl) (fun _ _ _ h => h) ?y8 (by assumption) ?r8
  case y8 => first | (refine Or.inr ⟨?_, ?_⟩; rfl; rfl) | (refine Or.inl ⟨?_, ?_⟩; rfl; intro w hSw; (try dsimp only at hSw); go_simp; try with_reducible rfl)
  simp only [Act.put, List.setIfInBounds_toArray, List.set_cons_zero, List.set_cons_succ, List.getElem_toArray, List.getElem_cons_succ, List.getElem_cons_zero]
  refine wpAnyH_take (i := 9) (v := ?v9) (rfl) (by kernel_rfl) (by kernel_rfl) (by kernel_rfl) (fun _ _ _ h => h) ?y9 (by assumption) ?r9
  case y9 => first | (refine Or.inr ⟨?_, ?_⟩; rfl; rfl) | (refine Or.inl ⟨?_, ?_⟩; rfl; intro w hSw; (try dsimp only at hSw); go_simp; try with_reducible rfl)
  simp only [Act.put, List.setIfInBounds_toArray, List.set_cons_zero, List.set_cons_succ, List.getElem_toArray, List.getElem_cons_succ, List.getElem_cons_zero]
  refine wpAnyH_take (i := 10) (v := ?v10) (rfl) (by kernel_rfl) (by kernel_rfl) (by kernel_rfl) (fun _ _ _ h => h) ?y10 (by assumption) ?r10
  case y10 => first | (refine Or.inr ⟨?_, ?_⟩; rfl; rfl) | (refine Or.inl ⟨?_, ?_⟩; rfl; intro w hSw; (try dsimp only at hSw); go_simp; try with_reducible rfl)
  simp only [Act.put, List.setIfInBounds_toArray, List.set_cons_zero, List.set_cons_succ, List.getElem_toArray, List.getElem_cons_succ, List.getElem_cons_zero]
  refine wpAnyH_take (i := 11) (v := ?v11) (rfl) (by kernel_rfl) (by kernel_rfl) (by kernel_rfl) (fun _ _ _ h => h) ?y11 (by assumption) ?r11
  case y11 => first | (refine Or.inr ⟨?_, ?_⟩; rfl; rfl) | (refine Or.inl ⟨?_, ?_⟩; rfl; intro w hSw; (try dsimp only at hSw); go_simp; try with_reducible rfl)
  simp only [Act.put, List.setIfInBounds_toArray, List.set_cons_zero, List.set_cons_succ, List.getElem_toArray, List.getElem_cons_succ, List.getElem_cons_zero]
  refine wpAnyH_take (i := 12) (v := ?v12) (rfl) (by kernel_rfl) (by kernel_rfl) (by kernel_rfl) (fun _ _ _ h => h) ?y12 (by assumption) ?r12
  case y12 => first | (refine Or.inr ⟨?_, ?_⟩; rfl; rfl) | (refine Or.inl ⟨?_, ?_⟩; rfl; intro w hSw; (try dsimp only at hSw); go_simp; try with_reducible rfl)
  simp only [Act.put, List.setIfInBounds_toArray, List.set_cons_zero, List.set_cons_succ, List.getElem_toArray, List.getElem_cons_succ, List.getElem_cons_zero]
  refine wpAnyH_take (i := 13) (v := ?v13) (rfl) (by kernel_rfl) (by kernel_rfl) (by kernel_rfl) (fun _ _ _ h => h) ?y13 (by assumption) ?r13
  case y13 => first | (refine Or.inr ⟨?_, ?_⟩; rfl; rfl) | (refine Or.inl ⟨?_, ?_⟩; rfl; intro w hSw; (try dsimp only at hSw); go_simp; try with_reducible rfl)
  simp only [Act.put, List.setIfInBounds_toArray, List.set_cons_zero, List.set_cons_succ, List.getElem_toArray, List.getElem_cons_succ, List.getElem_cons_zero]
  refine wpAnyH_take (i := 14) (v := ?v14) (rfl) (by kernel_rfl) (by kernel_rfl) (by kernel_rfl) (fun _ _ _ h => h) ?y14 (by assumption) ?r14
  case y14 => first | (refine Or.inr ⟨?_, ?_⟩; rfl; rfl) | (refine Or.inl ⟨?_, ?_⟩; rfl; intro w hSw; (try dsimp only at hSw); go_simp; try with_reducible rfl)
  simp only [Act.put, List.setIfInBounds_toArray, List.set_cons_zero, List.set_cons_succ, List.getElem_toArray, List.getElem_cons_succ, List.getElem_cons_zero]
  refine wpAnyH_take (i := 15) (v := ?v15) (rfl) (by kernel_rfl) (by kernel_rfl) (by kernel_rfl) (fun _ _ _ h => h) ?y15 (by assumption) ?r15
  case y15 => first | (refine Or.inr ⟨?_, ?_⟩; rfl; rfl) | (refine Or.inl ⟨?_, ?_⟩; rfl; intro w hSw; (try dsimp only at hSw); go_simp; try with_reducible rfl)
  simp only [Act.put, List.setIfInBounds_toArray, List.set_cons_zero, List.set_cons_succ, List.getElem_toArray, List.getElem_cons_succ, List.getElem_cons_zero]
  refine wpAnyH_take (i := 16) (v := ?v16) (rfl) (by kernel_rfl) (by kernel_rfl) (by kernel_rfl) (fun _ _ _ h => h) ?y16 (by assumption) ?r16
  case y16 => first | (refine Or.inr ⟨?_, ?_⟩; rfl; rfl) | (refine Or.inl ⟨?_, ?_⟩; rfl; intro w hSw; (try dsimp only at hSw); go_simp; try with_reducible rfl)
  simp only [Act.put, List.setIfInBounds_toArray, List.set_cons_zero, List.set_cons_succ, List.getElem_toArray, List.getElem_cons_succ, List.getElem_cons_zero]
  refine wpAnyH_ready (rs := [17]) (by kernel_rfl) (by simp) ?_
  refine AllReadyH.cons rfl (fun K hK => ?_) AllReadyH.nil
  go_simp
  try clear hHeld
  refine hK.out _ _ (rheld (H0.out.below (below_alloc B0.out.drew _)) HL.out Q0.out Q1.out Q2.out Q3.out) (fun hHeld => ?_)
  clear hK K
  try simp only [Act.put, List.setIfInBounds_toArray, List.set_cons_zero, List.set_cons_succ, List.getElem_toArray, List.getElem_cons_succ, List.getElem_cons_zero]
  have P2 := Aside0.mk (Pair.newer w x0 x1 (x2 * 256 + x3) 0 0 0)
  refine wpAnyH_ready (rs := [18]) (by kernel_rfl) (by simp) ?_
  refine AllReadyH.cons rfl (fun K hK => ?_) AllReadyH.nil
  go_simp
  try clear hHeld
  refine hK.out _ _ (rheld (P2.out.reads H0.out) HL.out Q0.out Q1.out Q2.out Q3.out) (fun hHeld => ?_)
  clear hK K
  try simp only [Act.put, List.setIfInBounds_toArray, List.set_cons_zero, List.set_cons_succ, List.getElem_toArray, List.getElem_cons_succ, List.getElem_cons_zero]
  refine wpAnyH_done (by kernel_rfl) ?_ _
  clear hHeld
  generalize ((w.alloc (.cells #[.int .u8 0, .int .u8 0, .int .u16 0, .int .u8 0, .int .u8 0, .int .u32 0] 25)).alloc (.cells #[.int .u8 x0, .int .u8 x1, .int .u16 (x2 * 256 + x3), .int .u8 0, .int .u8 0, .int .u32 0] 25)).drew = w3 at P2 ⊢
  obtain ⟨d0, d1, d2, d3, d4, d5⟩ := P2.out.2.1.cells
  have P4 := Aside0.mk P2.out
  obtain ⟨w5, hw5⟩ : ∃ w5, w5 = w3 := ⟨_, rfl⟩
  subst hw5
  clear d0 d1 d2 d3 d4 d5
  obtain ⟨d0, d1, d2, d3, d4, d5⟩ := P4.out.2.1.cells
  clear wa wb wc wd
  go_wp2_with fail
  clear d0 d1 d2 d3 d4 d5
  refine (renc_no (Fr.mk (x0) (x1) (x2 * 256 + x3) (0) (0) (0)) _ HW.out HS.out).mono ?_
  rintro e w6 ⟨rfl, hb⟩
  have P6 := Aside0.mk (P4.out.below hb)
  clear hb
  obtain ⟨c0, c1, c2, c3, c4, c5⟩ := P6.out.1.cells
  obtain ⟨d0, d1, d2, d3, d4, d5⟩ := P6.out.2.1.cells
  have f0 := P6.out.1.free 0
  have f1 := P6.out.1.free 1
  have f2 := P6.out.1.free 2
  have f3 := P6.out.1.free 3
  have f4 := P6.out.1.free 4
  have f5 := P6.out.1.free 5
  go_wp2_with fail
  refine bodyPost_ret (ret_cell_tmp rfl _ _ w.heap.size 25 _ (0, 0) _ (by rfl) (Box.set6 P6.out.1 _ _ _ _ _ _) Try.underlying25 rfl (by kernel_rfl)) rfl ?_
  exact ⟨rfl, below6 P6.out.2.2 (Nat.le_refl _) _ _ _ _ _ _⟩
set_option maxHeartbeats 4000000 in
set_option maxRecDepth 100000 in
theorem rdec_n_not (ad : Addr) (c : Nat) (l : List Int) (w : World) (hr : ReadsInt w .u8 (some ad) l.length l) (hc : l.length ≤ c) (hl : 6 ≤ l.length) (x0 x1 x2 x3 : Int) (g0 : 0 ≤ x0 ∧ x0 ≤ 255) (q0 : l.getD 0 0 = x0) (g1 : 0 ≤ x1 ∧ x1 ≤ 255) (q1 : l.getD 1 0 = x1) (g2 : 0 ≤ x2 ∧ x2 ≤ 255) (q2 : l.getD 2 0 = x2) (g3 : 0 ≤ x3 ∧ x3 ≤ 255) (q3 : l.getD 3 0 = x3) (hk : x0 = 1) (hl2 : ¬ 12 ≤ l.length) (hw : (Fr.mk (x0) (x1) (x2 * 256 + x3) (0) (0) (0)).wf) (hs : (Fr.mk (x0) (x1) (x2 * 256 + x3) (0) (0) (0)).sound = true) (hbn : ((strOfNums (Fr.mk (x0) (x1) (x2 * 256 + x3) (0) (0) (0)).bytes).toList != (strOfNums l).toList) = true) (hbn2 : ((strOfNums (Fr.mk (x0) (x1) (x2 * 256 + x3) (0) (0) (0)).bytes).toList == (strOfNums l).toList) = false) :
    Calls Try.prog 20 #[.slice (some ad) l.length c] w (RBack w Fr.zero 30) := by
  have H0 := Aside0.mk hr
  have HL := Aside0.mk hl
  have HW := Aside0.mk hw
  have HS := Aside0.mk hs
  have Q0 := Aside0.mk q0
  have Q1 := Aside0.mk q1
  have Q2 := Aside0.mk q2
  have Q3 := Aside0.mk q3
  have HBN := Aside0.mk hbn
  have HBM := Aside0.mk hbn2
  clear hbn hbn2
  have e0 : decide ((l.length : Int) < 6) = false := decide_eq_false (by omega)
  have eA : (x0 == 1) = true := beq_iff_eq.mpr hk
  have eB : decide ((l.length : Int) ≥ 12) = false := decide_eq_false (by omega)
  have i0 : (0 : Int) < (l.length : Int) := by omega
  have n0 : 0 < l.length := by omega
  have n1 : 1 < l.length := by omega
  have n2 : 2 < l.length := by omega
  have n3 : 3 < l.length := by omega
  have i1 : (1 : Int) < (l.length : Int) := by omega
  have i2 : (2 : Int) < (l.length : Int) := by omega
  have i3 : (3 : Int) < (l.length : Int) := by omega
  have wa : IntKind.u16.wrap x2 = x2 := by rw [w16]; omega
  have wb : IntKind.u16.wrap (x2 * 256) = x2 * 256 := by rw [w16]; omega
  have wc : IntKind.u16.wrap x3 = x3 := by rw [w16]; omega
  have wd : IntKind.u16.wrap (x2 * 256 + x3) = x2 * 256 + x3 := by rw [w16]; omega
  clear hr hl hw hs hc hk hl2 q0 q1 q2 q3
  go_enter Try.func20, Try.ntmps20
  go_wp2_with fail
  have B0 := Aside0.mk (below_alloc (Below.refl w.heap.size w) (.cells #[.int .u8 0, .int .u8 0, .int .u16 0, .int .u8 0, .int .u8 0, .int .u32 0] 25))
  refine wp_region_held_drew (S := fun W => W.cell? ad = some (.int .u8 x0) ∧ W.cell? ⟨ad.block, ad.off + 1, none⟩ = some (.int .u8 x1) ∧ W.cell? ⟨ad.block, ad.off + 2, none⟩ = some (.int .u8 x2) ∧ W.cell? ⟨ad.block, ad.off + 3, none⟩ = some (.int .u8 x3)) (by kernel_rfl) ?_ (fun hHeld => ?_)
  · exact rheld (H0.out.below B0.out.drew) HL.out Q0.out Q1.out Q2.out Q3.out
  refine wpAnyH_take (i := 0) (v := ?v0) (rfl) (by kernel_rfl) (by kernel_rfl) (by kernel_rfl) (fun _ _ _ h => h) ?y0 (by assumption) ?r0
  case y0 => first | (refine Or.inr ⟨?_, ?_⟩; rfl; rfl) | (refine Or.inl ⟨?_, ?_⟩; rfl; intro w hSw; (try dsimp only at hSw); go_simp; try with_reducible rfl)
  simp only [Act.put, List.setIfInBounds_toArray, List.set_cons_zero, List.set_cons_succ, List.getElem_toArray, List.getElem_cons_succ, List.getElem_cons_zero]
  refine wpAnyH_take (i := 1) (v := ?v1) (rfl) (by kernel_rfl) (by kernel_rfl) (by kernel_rfl) (fun _ _ _ h => h) ?y1 (by assumption) ?r1
  case y1 => first | (refine Or.inr ⟨?_, ?_⟩; rfl; rfl) | (refine Or.inl ⟨?_, ?_⟩; rfl; intro w hSw; (try dsimp only at hSw); go_simp; try with_reducible rfl)
  simp only [Act.put, List.setIfInBounds_toArray, List.set_cons_zero, List.set_cons_succ, List.getElem_toArray, List.getElem_cons_succ, List.getElem_cons_zero]
  refine wpAnyH_take (i := 2) (v := ?v2) (rfl) (by kernel_rfl) (by kernel_rfl) (by kernel_rfl) (fun _ _ _ h => h) ?y2 (by assumption) ?r2
  case y2 => first | (refine Or.inr ⟨?_, ?_⟩; rfl; rfl) | (refine Or.inl ⟨?_, ?_⟩; rfl; intro w hSw; (try dsimp only at hSw); go_simp; try with_reducible rfl)
  simp only [Act.put, List.setIfInBounds_toArray, List.set_cons_zero, List.set_cons_succ, List.getElem_toArray, List.getElem_cons_succ, List.getElem_cons_zero]
  refine wpAnyH_take (i := 3) (v := ?v3) (rfl) (by kernel_rfl) (by kernel_rfl) (by kernel_rfl) (fun _ _ _ h => h) ?y3 (by assumption) ?r3
  case y3 => first | (refine Or.inr ⟨?_, ?_⟩; rfl; rfl) | (refine Or.inl ⟨?_, ?_⟩; rfl; intro w hSw; (try dsimp only at hSw); go_simp; try with_reducible rfl)
  simp only [Act.put, List.setIfInBounds_toArray, List.set_cons_zero, List.set_cons_succ, List.getElem_toArray, List.getElem_cons_succ, List.getElem_cons_zero]
  refine wpAnyH_take (i := 4) (v := ?v4) (rfl) (by kernel_rfl) (by kernel_rfl) (by kernel_rfl) (fun _ _ _ h => h) ?y4 (by assumption) ?r4
  case y4 => first | (refine Or.inr ⟨?_, ?_⟩; rfl; rfl) | (refine Or.inl ⟨?_, ?_⟩; rfl; intro w hSw; (try dsimp only at hSw); go_simp; try with_reducible rfl)
  simp only [Act.put, List.setIfInBounds_toArray, List.set_cons_zero, List.set_cons_succ, List.getElem_toArray, List.getElem_cons_succ, List.getElem_cons_zero]
  refine wpAnyH_take (i := 5) (v := ?v5) (rfl) (by kernel_rfl) (by kernel_rfl) (by kernel_rfl) (fun _ _ _ h => h) ?y5 (by assumption) ?r5
  case y5 => first | (refine Or.inr ⟨?_, ?_⟩; rfl; rfl) | (refine Or.inl ⟨?_, ?_⟩; rfl; intro w hSw; (try dsimp only at hSw); go_simp; try with_reducible rfl)
  simp only [Act.put, List.setIfInBounds_toArray, List.set_cons_zero, List.set_cons_succ, List.getElem_toArray, List.getElem_cons_succ, List.getElem_cons_zero]
  refine wpAnyH_take (i := 6) (v := ?v6) (rfl) (by kernel_rfl) (by kernel_rfl) (by kernel_rfl) (fun _ _ _ h => h) ?y6 (by assumption) ?r6
  case y6 => first | (refine Or.inr ⟨?_, ?_⟩; rfl; rfl) | (refine Or.inl ⟨?_, ?_⟩; rfl; intro w hSw; (try dsimp only at hSw); go_simp; try with_reducible rfl)
  simp only [Act.put, List.setIfInBounds_toArray, List.set_cons_zero, List.set_cons_succ, List.getElem_toArray, List.getElem_cons_succ, List.getElem_cons_zero]
  refine wpAnyH_take (i := 7) (v := ?v7) (rfl) (by kernel_rfl) (by kernel_rfl) (by kernel_rfl) (fun _ _ _ h => h) ?y7 (by assumption) ?r7
  case y7 => first | (refine Or.inr ⟨?_, ?_⟩; rfl; rfl) | (refine Or.inl ⟨?_, ?_⟩; rfl; intro w hSw; (try dsimp only at hSw); go_simp; try with_reducible rfl)
  simp only [Act.put, List.setIfInBounds_toArray, List.set_cons_zero, List.set_cons_succ, List.getElem_toArray, List.getElem_cons_succ, List.getElem_cons_zero]
  refine wpAnyH_take (i := 8) (v := ?v8) (rfl) (by kernel_rfl) (by kernel_rfl) (by kernel_rfl) (fun _ _ _ h => h) ?y8 (by assumption) ?r8
  case y8 => first | (refine Or.inr ⟨?_, ?_⟩; rfl; rfl) | (refine Or.inl ⟨?_, ?_⟩; rfl; intro w hSw; (try dsimp only at hSw); go_simp; try with_reducible rfl)
  simp only [Act.put, List.setIfInBounds_toArray, List.set_cons_zero, List.set_cons_succ, List.getElem_toArray, List.getElem_cons_succ, List.getElem_cons_zero]
  refine wpAnyH_take (i := 9) (v := ?v9) (rfl) (by kernel_rfl) (by kernel_rfl) (by kernel_rfl) (fun _ _ _ h => h) ?y9 (by assumption) ?r9
  case y9 => first | (refine Or.inr ⟨?_, ?_⟩; rfl; rfl) | (refine Or.inl ⟨?_, ?_⟩; rfl; intro w hSw; (try dsimp only at hSw); go_simp; try with_reducible rfl)
  simp only [Act.put, List.setIfInBounds_toArray, List.set_cons_zero, List.set_cons_succ, List.getElem_toArray, List.getElem_cons_succ, List.getElem_cons_zero]
  refine wpAnyH_take (i := 10) (v := ?v10) (rfl) (by kernel_rfl) (by kernel_rfl) (by kernel_rfl) (fun _ _ _ h => h) ?y10 (by assumption) ?r10
  case y10 => first | (refine Or.inr ⟨?_, ?_⟩; rfl; rfl) | (refine Or.inl ⟨?_, ?_⟩; rfl; intro w hSw; (try dsimp only at hSw); go_simp; try with_reducible rfl)
  simp only [Act.put, List.setIfInBounds_toArray, List.set_cons_zero, List.set_cons_succ, List.getElem_toArray, List.getElem_cons_succ, List.getElem_cons_zero]
  refine wpAnyH_take (i := 11) (v := ?v11) (rfl) (by kernel_rfl) (by kernel_rfl) (by kernel_rfl) (fun _ _ _ h => h) ?y11 (by assumption) ?r11
  case y11 => first | (refine Or.inr ⟨?_, ?_⟩; rfl; rfl) | (refine Or.inl ⟨?_, ?_⟩; rfl; intro w hSw; (try dsimp only at hSw); go_simp; try with_reducible rfl)
  simp only [Act.put, List.setIfInBounds_toArray, List.set_cons_zero, List.set_cons_succ, List.getElem_toArray, List.getElem_cons_succ, List.getElem_cons_zero]
  refine wpAnyH_take (i := 12) (v := ?v12) (rfl) (by kernel_rfl) (by kernel_rfl) (by kernel_rfl) (fun _ _ _ h => h) ?y12 (by assumption) ?r12
  case y12 => first | (refine Or.inr ⟨?_, ?_⟩; rfl; rfl) | (refine Or.inl ⟨?_, ?_⟩; rfl; intro w hSw; (try dsimp only at hSw); go_simp; try with_reducible rfl)
  simp only [Act.put, List.setIfInBounds_toArray, List.set_cons_zero, List.set_cons_succ, List.getElem_toArray, List.getElem_cons_succ, List.getElem_cons_zero]
  refine wpAnyH_take (i := 13) (v := ?v13) (rfl) (by kernel_rfl) (by kernel_rfl) (by kernel_rfl) (fun _ _ _ h => h) ?y13 (by assumption) ?r13
  case y13 => first | (refine Or.inr ⟨?_, ?_⟩; rfl; rfl) | (refine Or.inl ⟨?_, ?_⟩; rfl; intro w hSw; (try dsimp only at hSw); go_simp; try with_reducible rfl)
  simp only [Act.put, List.setIfInBounds_toArray, List.set_cons_zero, List.set_cons_succ, List.getElem_toArray, List.getElem_cons_succ, List.getElem_cons_zero]
  refine wpAnyH_take (i := 14) (v := ?v14) (rfl) (by kernel_rfl) (by kernel_rfl) (by kernel_rfl) (fun _ _ _ h => h) ?y14 (by assumption) ?r14
  case y14 => first | (refine Or.inr ⟨?_, ?_⟩; rfl; rfl) | (refine Or.inl ⟨?_, ?_⟩; rfl; intro w hSw; (try dsimp only at hSw); go_simp; try with_reducible rfl)
  simp only [Act.put, List.setIfInBounds_toArray, List.set_cons_zero, List.set_cons_succ, List.getElem_toArray, List.getElem_cons_succ, List.getElem_cons_zero]
  refine wpAnyH_take (i := 15) (v := ?v15) (rfl) (by kernel_rfl) (by kernel_rfl) (by kernel_rfl) (fun _ _ _ h => h) ?y15 (by assumption) ?r15
  case y15 => first | (refine Or.inr ⟨?_, ?_⟩; rfl; rfl) | (refine Or.inl ⟨?_, ?_⟩; rfl; intro w hSw; (try dsimp only at hSw); go_simp; try with_reducible rfl)
  simp only [Act.put, List.setIfInBounds_toArray, List.set_cons_zero, List.set_cons_succ, List.getElem_toArray, List.getElem_cons_succ, List.getElem_cons_zero]
  refine wpAnyH_take (i := 16) (v := ?v16) (rfl) (by kernel_rfl) (by kernel_rfl) (by kernel_rfl) (fun _ _ _ h => h) ?y16 (by assumption) ?r16
  case y16 => first | (refine Or.inr ⟨?_, ?_⟩; rfl; rfl) | (refine Or.inl ⟨?_, ?_⟩; rfl; intro w hSw; (try dsimp only at hSw); go_simp; try with_reducible rfl)
  simp only [Act.put, List.setIfInBounds_toArray, List.set_cons_zero, List.set_cons_succ, List.getElem_toArray, List.getElem_cons_succ, List.getElem_cons_zero]
  refine wpAnyH_ready (rs := [17]) (by kernel_rfl) (by simp) ?_
  refine AllReadyH.cons rfl (fun K hK => ?_) AllReadyH.nil
  go_simp
  try clear hHeld
  refine hK.out _ _ (rheld (H0.out.below (below_alloc B0.out.drew _)) HL.out Q0.out Q1.out Q2.out Q3.out) (fun hHeld => ?_)
  clear hK K
  try simp only [Act.put, List.setIfInBounds_toArray, List.set_cons_zero, List.set_cons_succ, List.getElem_toArray, List.getElem_cons_succ, List.getElem_cons_zero]
  have P2 := Aside0.mk (Pair.newer w x0 x1 (x2 * 256 + x3) 0 0 0)
  refine wpAnyH_ready (rs := [18]) (by kernel_rfl) (by simp) ?_
  refine AllReadyH.cons rfl (fun K hK => ?_) AllReadyH.nil
  go_simp
  try clear hHeld
  refine hK.out _ _ (rheld (P2.out.reads H0.out) HL.out Q0.out Q1.out Q2.out Q3.out) (fun hHeld => ?_)
  clear hK K
  try simp only [Act.put, List.setIfInBounds_toArray, List.set_cons_zero, List.set_cons_succ, List.getElem_toArray, List.getElem_cons_succ, List.getElem_cons_zero]
  refine wpAnyH_done (by kernel_rfl) ?_ _
  clear hHeld
  generalize ((w.alloc (.cells #[.int .u8 0, .int .u8 0, .int .u16 0, .int .u8 0, .int .u8 0, .int .u32 0] 25)).alloc (.cells #[.int .u8 x0, .int .u8 x1, .int .u16 (x2 * 256 + x3), .int .u8 0, .int .u8 0, .int .u32 0] 25)).drew = w3 at P2 ⊢
  obtain ⟨d0, d1, d2, d3, d4, d5⟩ := P2.out.2.1.cells
  have P4 := Aside0.mk P2.out
  obtain ⟨w5, hw5⟩ : ∃ w5, w5 = w3 := ⟨_, rfl⟩
  subst hw5
  clear d0 d1 d2 d3 d4 d5
  obtain ⟨d0, d1, d2, d3, d4, d5⟩ := P4.out.2.1.cells
  clear wa wb wc wd
  go_wp2_with fail
  clear d0 d1 d2 d3 d4 d5
  refine (renc_fr (Fr.mk (x0) (x1) (x2 * 256 + x3) (0) (0) (0)) _ HW.out HS.out).mono ?_
  rintro e w6 ⟨base, v, rfl, R⟩
  obtain ⟨A', c', rfl, hr', -, -⟩ := R.slice
  have P6 := Aside0.mk (P4.out.below R.bel)
  have C1 : (convert 27 9 (.slice A' (Fr.mk (x0) (x1) (x2 * 256 + x3) (0) (0) (0)).bytes.length c')).run Try.prog w6 = .ok (.string (strOfNums (Fr.mk (x0) (x1) (x2 * 256 + x3) (0) (0) (0)).bytes)) w6 := string_of_reads Try.underlying27 Try.underlying5 Try.underlying9 (h := hr')
  have C2 : (convert 27 9 (.slice (some ad) l.length c)).run Try.prog w6 = .ok (.string (strOfNums l)) w6 := string_of_reads Try.underlying27 Try.underlying5 Try.underlying9 (h := P6.out.reads H0.out)
  clear R hr'
  have N1 := HBN.out
  have N2 := HBM.out
  obtain ⟨c0, c1, c2, c3, c4, c5⟩ := P6.out.1.cells
  obtain ⟨d0, d1, d2, d3, d4, d5⟩ := P6.out.2.1.cells
  have f0 := P6.out.1.free 0
  have f1 := P6.out.1.free 1
  have f2 := P6.out.1.free 2
  have f3 := P6.out.1.free 3
  have f4 := P6.out.1.free 4
  have f5 := P6.out.1.free 5
  go_wp2_with fail
  refine bodyPost_ret (ret_cell_tmp rfl _ _ w.heap.size 25 _ (0, 0) _ (by rfl) (Box.set6 P6.out.1 _ _ _ _ _ _) Try.underlying25 rfl (by kernel_rfl)) rfl ?_
  exact ⟨rfl, below6 P6.out.2.2 (Nat.le_refl _) _ _ _ _ _ _⟩
set_option maxHeartbeats 4000000 in
set_option maxRecDepth 100000 in
theorem rdec_n_yes (ad : Addr) (c : Nat) (l : List Int) (w : World) (hr : ReadsInt w .u8 (some ad) l.length l) (hc : l.length ≤ c) (hl : 6 ≤ l.length) (x0 x1 x2 x3 : Int) (g0 : 0 ≤ x0 ∧ x0 ≤ 255) (q0 : l.getD 0 0 = x0) (g1 : 0 ≤ x1 ∧ x1 ≤ 255) (q1 : l.getD 1 0 = x1) (g2 : 0 ≤ x2 ∧ x2 ≤ 255) (q2 : l.getD 2 0 = x2) (g3 : 0 ≤ x3 ∧ x3 ≤ 255) (q3 : l.getD 3 0 = x3) (hk : x0 = 1) (hl2 : ¬ 12 ≤ l.length) (hw : (Fr.mk (x0) (x1) (x2 * 256 + x3) (0) (0) (0)).wf) (hs : (Fr.mk (x0) (x1) (x2 * 256 + x3) (0) (0) (0)).sound = true) (hby : (Fr.mk (x0) (x1) (x2 * 256 + x3) (0) (0) (0)).bytes = l) :
    Calls Try.prog 20 #[.slice (some ad) l.length c] w (RBack w (Fr.mk (x0) (x1) (x2 * 256 + x3) (0) (0) (0)) 0) := by
  have H0 := Aside0.mk hr
  have HL := Aside0.mk hl
  have HW := Aside0.mk hw
  have HS := Aside0.mk hs
  have Q0 := Aside0.mk q0
  have Q1 := Aside0.mk q1
  have Q2 := Aside0.mk q2
  have Q3 := Aside0.mk q3
  have HBY := Aside0.mk hby
  clear hby
  have e0 : decide ((l.length : Int) < 6) = false := decide_eq_false (by omega)
  have eA : (x0 == 1) = true := beq_iff_eq.mpr hk
  have eB : decide ((l.length : Int) ≥ 12) = false := decide_eq_false (by omega)
  have i0 : (0 : Int) < (l.length : Int) := by omega
  have n0 : 0 < l.length := by omega
  have n1 : 1 < l.length := by omega
  have n2 : 2 < l.length := by omega
  have n3 : 3 < l.length := by omega
  have i1 : (1 : Int) < (l.length : Int) := by omega
  have i2 : (2 : Int) < (l.length : Int) := by omega
  have i3 : (3 : Int) < (l.length : Int) := by omega
  have wa : IntKind.u16.wrap x2 = x2 := by rw [w16]; omega
  have wb : IntKind.u16.wrap (x2 * 256) = x2 * 256 := by rw [w16]; omega
  have wc : IntKind.u16.wrap x3 = x3 := by rw [w16]; omega
  have wd : IntKind.u16.wrap (x2 * 256 + x3) = x2 * 256 + x3 := by rw [w16]; omega
  clear hr hl hw hs hc hk hl2 q0 q1 q2 q3
  go_enter Try.func20, Try.ntmps20
  go_wp2_with fail
  have B0 := Aside0.mk (below_alloc (Below.refl w.heap.size w) (.cells #[.int .u8 0, .int .u8 0, .int .u16 0, .int .u8 0, .int .u8 0, .int .u32 0] 25))
  refine wp_region_held_drew (S := fun W => W.cell? ad = some (.int .u8 x0) ∧ W.cell? ⟨ad.block, ad.off + 1, none⟩ = some (.int .u8 x1) ∧ W.cell? ⟨ad.block, ad.off + 2, none⟩ = some (.int .u8 x2) ∧ W.cell? ⟨ad.block, ad.off + 3, none⟩ = some (.int .u8 x3)) (by kernel_rfl) ?_ (fun hHeld => ?_)
  · exact rheld (H0.out.below B0.out.drew) HL.out Q0.out Q1.out Q2.out Q3.out
  refine wpAnyH_take (i := 0) (v := ?v0) (rfl) (by kernel_rfl) (by kernel_rfl) (by kernel_rfl) (fun _ _ _ h => h) ?y0 (by assumption) ?r0
  case y0 => first | (refine Or.inr ⟨?_, ?_⟩; rfl; rfl) | (refine Or.inl ⟨?_, ?_⟩; rfl; intro w hSw; (try dsimp only at hSw); go_simp; try with_reducible rfl)
  simp only [Act.put, List.setIfInBounds_toArray, List.set_cons_zero, List.set_cons_succ, List.getElem_toArray, List.getElem_cons_succ, List.getElem_cons_zero]
  refine wpAnyH_take (i := 1) (v := ?v1) (rfl) (by kernel_rfl) (by kernel_rfl) (by kernel_rfl) (fun _ _ _ h => h) ?y1 (by assumption) ?r1
  case y1 => first | (refine Or.inr ⟨?_, ?_⟩; rfl; rfl) | (refine Or.inl ⟨?_, ?_⟩; rfl; intro w hSw; (try dsimp only at hSw); go_simp; try with_reducible rfl)
  simp only [Act.put, List.setIfInBounds_toArray, List.set_cons_zero, List.set_cons_succ, List.getElem_toArray, List.getElem_cons_succ, List.getElem_cons_zero]
  refine wpAnyH_take (i := 2) (v := ?v2) (rfl) (by kernel_rfl) (by kernel_rfl) (by kernel_rfl) (fun _ _ _ h => h) ?y2 (by assumption) ?r2
  case y2 => first | (refine Or.inr ⟨?_, ?_⟩; rfl; rfl) | (refine Or.inl ⟨?_, ?_⟩; rfl; intro w hSw; (try dsimp only at hSw); go_simp; try with_reducible rfl)
  simp only [Act.put, List.setIfInBounds_toArray, List.set_cons_zero, List.set_cons_succ, List.getElem_toArray, List.getElem_cons_succ, List.getElem_cons_zero]
  refine wpAnyH_take (i := 3) (v := ?v3) (rfl) (by kernel_rfl) (by kernel_rfl) (by kernel_rfl) (fun _ _ _ h => h) ?y3 (by assumption) ?r3
  case y3 => first | (refine Or.inr ⟨?_, ?_⟩; rfl; rfl) | (refine Or.inl ⟨?_, ?_⟩; rfl; intro w hSw; (try dsimp only at hSw); go_simp; try with_reducible rfl)
  simp only [Act.put, List.setIfInBounds_toArray, List.set_cons_zero, List.set_cons_succ, List.getElem_toArray, List.getElem_cons_succ, List.getElem_cons_zero]
  refine wpAnyH_take (i := 4) (v := ?v4) (rfl) (by kernel_rfl) (by kernel_rfl) (by kernel_rfl) (fun _ _ _ h => h) ?y4 (by assumption) ?r4
  case y4 => first | (refine Or.inr ⟨?_, ?_⟩; rfl; rfl) | (refine Or.inl ⟨?_, ?_⟩; rfl; intro w hSw; (try dsimp only at hSw); go_simp; try with_reducible rfl)
  simp only [Act.put, List.setIfInBounds_toArray, List.set_cons_zero, List.set_cons_succ, List.getElem_toArray, List.getElem_cons_succ, List.getElem_cons_zero]
  refine wpAnyH_take (i := 5) (v := ?v5) (rfl) (by kernel_rfl) (by kernel_rfl) (by kernel_rfl) (fun _ _ _ h => h) ?y5 (by assumption) ?r5
  case y5 => first | (refine Or.inr ⟨?_, ?_⟩; rfl; rfl) | (refine Or.inl ⟨?_, ?_⟩; rfl; intro w hSw; (try dsimp only at hSw); go_simp; try with_reducible rfl)
  simp only [Act.put, List.setIfInBounds_toArray, List.set_cons_zero, List.set_cons_succ, List.getElem_toArray, List.getElem_cons_succ, List.getElem_cons_zero]
  refine wpAnyH_take (i := 6) (v := ?v6) (rfl) (by kernel_rfl) (by kernel_rfl) (by kernel_rfl) (fun _ _ _ h => h) ?y6 (by assumption) ?r6
  case y6 => first | (refine Or.inr ⟨?_, ?_⟩; rfl; rfl) | (refine Or.inl ⟨?_, ?_⟩; rfl; intro w hSw; (try dsimp only at hSw); go_simp; try with_reducible rfl)
  simp only [Act.put, List.setIfInBounds_toArray, List.set_cons_zero, List.set_cons_succ, List.getElem_toArray, List.getElem_cons_succ, List.getElem_cons_zero]
  refine wpAnyH_take (i := 7) (v := ?v7) (rfl) (by kernel_rfl) (by kernel_rfl) (by kernel_rfl) (fun _ _ _ h => h) ?y7 (by assumption) ?r7
  case y7 => first | (refine Or.inr ⟨?_, ?_⟩; rfl; rfl) | (refine Or.inl ⟨?_, ?_⟩; rfl; intro w hSw; (try dsimp only at hSw); go_simp; try with_reducible rfl)
  simp only [Act.put, List.setIfInBounds_toArray, List.set_cons_zero, List.set_cons_succ, List.getElem_toArray, List.getElem_cons_succ, List.getElem_cons_zero]
  refine wpAnyH_take (i := 8) (v := ?v8) (rfl) (by kernel_rfl) (by kernel_rfl) (by kernel_rfl) (fun _ _ _ h => h) ?y8 (by assumption) ?r8
  case y8 => first | (refine Or.inr ⟨?_, ?_⟩; rfl; rfl) | (refine Or.inl ⟨?_, ?_⟩; rfl; intro w hSw; (try dsimp only at hSw); go_simp; try with_reducible rfl)
  simp only [Act.put, List.setIfInBounds_toArray, List.set_cons_zero, List.set_cons_succ, List.getElem_toArray, List.getElem_cons_succ, List.getElem_cons_zero]
  refine wpAnyH_take (i := 9) (v := ?v9) (rfl) (by kernel_rfl) (by kernel_rfl) (by kernel_rfl) (fun _ _ _ h => h) ?y9 (by assumption) ?r9
  case y9 => first | (refine Or.inr ⟨?_, ?_⟩; rfl; rfl) | (refine Or.inl ⟨?_, ?_⟩; rfl; intro w hSw; (try dsimp only at hSw); go_simp; try with_reducible rfl)
  simp only [Act.put, List.setIfInBounds_toArray, List.set_cons_zero, List.set_cons_succ, List.getElem_toArray, List.getElem_cons_succ, List.getElem_cons_zero]
  refine wpAnyH_take (i := 10) (v := ?v10) (rfl) (by kernel_rfl) (by kernel_rfl) (by kernel_rfl) (fun _ _ _ h => h) ?y10 (by assumption) ?r10
  case y10 => first | (refine Or.inr ⟨?_, ?_⟩; rfl; rfl) | (refine Or.inl ⟨?_, ?_⟩; rfl; intro w hSw; (try dsimp only at hSw); go_simp; try with_reducible rfl)
  simp only [Act.put, List.setIfInBounds_toArray, List.set_cons_zero, List.set_cons_succ, List.getElem_toArray, List.getElem_cons_succ, List.getElem_cons_zero]
  refine wpAnyH_take (i := 11) (v := ?v11) (rfl) (by kernel_rfl) (by kernel_rfl) (by kernel_rfl) (fun _ _ _ h => h) ?y11 (by assumption) ?r11
  case y11 => first | (refine Or.inr ⟨?_, ?_⟩; rfl; rfl) | (refine Or.inl ⟨?_, ?_⟩; rfl; intro w hSw; (try dsimp only at hSw); go_simp; try with_reducible rfl)
  simp only [Act.put, List.setIfInBounds_toArray, List.set_cons_zero, List.set_cons_succ, List.getElem_toArray, List.getElem_cons_succ, List.getElem_cons_zero]
  refine wpAnyH_take (i := 12) (v := ?v12) (rfl) (by kernel_rfl) (by kernel_rfl) (by kernel_rfl) (fun _ _ _ h => h) ?y12 (by assumption) ?r12
  case y12 => first | (refine Or.inr ⟨?_, ?_⟩; rfl; rfl) | (refine Or.inl ⟨?_, ?_⟩; rfl; intro w hSw; (try dsimp only at hSw); go_simp; try with_reducible rfl)
  simp only [Act.put, List.setIfInBounds_toArray, List.set_cons_zero, List.set_cons_succ, List.getElem_toArray, List.getElem_cons_succ, List.getElem_cons_zero]
  refine wpAnyH_take (i := 13) (v := ?v13) (rfl) (by kernel_rfl) (by kernel_rfl) (by kernel_rfl) (fun _ _ _ h => h) ?y13 (by assumption) ?r13
  case y13 => first | (refine Or.inr ⟨?_, ?_⟩; rfl; rfl) | (refine Or.inl ⟨?_, ?_⟩; rfl; intro w hSw; (try dsimp only at hSw); go_simp; try with_reducible rfl)
  simp only [Act.put, List.setIfInBounds_toArray, List.set_cons_zero, List.set_cons_succ, List.getElem_toArray, List.getElem_cons_succ, List.getElem_cons_zero]
  refine wpAnyH_take (i := 14) (v := ?v14) (rfl) (by kernel_rfl) (by kernel_rfl) (by kernel_rfl) (fun _ _ _ h => h) ?y14 (by assumption) ?r14
  case y14 => first | (refine Or.inr ⟨?_, ?_⟩; rfl; rfl) | (refine Or.inl ⟨?_, ?_⟩; rfl; intro w hSw; (try dsimp only at hSw); go_simp; try with_reducible rfl)
  simp only [Act.put, List.setIfInBounds_toArray, List.set_cons_zero, List.set_cons_succ, List.getElem_toArray, List.getElem_cons_succ, List.getElem_cons_zero]
  refine wpAnyH_take (i := 15) (v := ?v15) (rfl) (by kernel_rfl) (by kernel_rfl) (by kernel_rfl) (fun _ _ _ h => h) ?y15 (by assumption) ?r15
  case y15 => first | (refine Or.inr ⟨?_, ?_⟩; rfl; rfl) | (refine Or.inl ⟨?_, ?_⟩; rfl; intro w hSw; (try dsimp only at hSw); go_simp; try with_reducible rfl)
  simp only [Act.put, List.setIfInBounds_toArray, List.set_cons_zero, List.set_cons_succ, List.getElem_toArray, List.getElem_cons_succ, List.getElem_cons_zero]
  refine wpAnyH_take (i := 16) (v := ?v16) (rfl) (by kernel_rfl) (by kernel_rfl) (by kernel_rfl) (fun _ _ _ h => h) ?y16 (by assumption) ?r16
  case y16 => first | (refine Or.inr ⟨?_, ?_⟩; rfl; rfl) | (refine Or.inl ⟨?_, ?_⟩; rfl; intro w hSw; (try dsimp only at hSw); go_simp; try with_reducible rfl)
  simp only [Act.put, List.setIfInBounds_toArray, List.set_cons_zero, List.set_cons_succ, List.getElem_toArray, List.getElem_cons_succ, List.getElem_cons_zero]
  refine wpAnyH_ready (rs := [17]) (by kernel_rfl) (by simp) ?_
  refine AllReadyH.cons rfl (fun K hK => ?_) AllReadyH.nil
  go_simp
  try clear hHeld
  refine hK.out _ _ (rheld (H0.out.below (below_alloc B0.out.drew _)) HL.out Q0.out Q1.out Q2.out Q3.out) (fun hHeld => ?_)
  clear hK K
  try simp only [Act.put, List.setIfInBounds_toArray, List.set_cons_zero, List.set_cons_succ, List.getElem_toArray, List.getElem_cons_succ, List.getElem_cons_zero]
  have P2 := Aside0.mk (Pair.newer w x0 x1 (x2 * 256 + x3) 0 0 0)
  refine wpAnyH_ready (rs := [18]) (by kernel_rfl) (by simp) ?_
  refine AllReadyH.cons rfl (fun K hK => ?_) AllReadyH.nil
  go_simp
  try clear hHeld
  refine hK.out _ _ (rheld (P2.out.reads H0.out) HL.out Q0.out Q1.out Q2.out Q3.out) (fun hHeld => ?_)
  clear hK K
  try simp only [Act.put, List.setIfInBounds_toArray, List.set_cons_zero, List.set_cons_succ, List.getElem_toArray, List.getElem_cons_succ, List.getElem_cons_zero]
  refine wpAnyH_done (by kernel_rfl) ?_ _
  clear hHeld
  generalize ((w.alloc (.cells #[.int .u8 0, .int .u8 0, .int .u16 0, .int .u8 0, .int .u8 0, .int .u32 0] 25)).alloc (.cells #[.int .u8 x0, .int .u8 x1, .int .u16 (x2 * 256 + x3), .int .u8 0, .int .u8 0, .int .u32 0] 25)).drew = w3 at P2 ⊢
  obtain ⟨d0, d1, d2, d3, d4, d5⟩ := P2.out.2.1.cells
  have P4 := Aside0.mk P2.out
  obtain ⟨w5, hw5⟩ : ∃ w5, w5 = w3 := ⟨_, rfl⟩
  subst hw5
  clear d0 d1 d2 d3 d4 d5
  obtain ⟨d0, d1, d2, d3, d4, d5⟩ := P4.out.2.1.cells
  clear wa wb wc wd
  go_wp2_with fail
  clear d0 d1 d2 d3 d4 d5
  refine (renc_fr (Fr.mk (x0) (x1) (x2 * 256 + x3) (0) (0) (0)) _ HW.out HS.out).mono ?_
  rintro e w6 ⟨base, v, rfl, R⟩
  obtain ⟨A', c', rfl, hr', -, -⟩ := R.slice
  have P6 := Aside0.mk (P4.out.below R.bel)
  have C1 : (convert 27 9 (.slice A' (Fr.mk (x0) (x1) (x2 * 256 + x3) (0) (0) (0)).bytes.length c')).run Try.prog w6 = .ok (.string (strOfNums (Fr.mk (x0) (x1) (x2 * 256 + x3) (0) (0) (0)).bytes)) w6 := string_of_reads Try.underlying27 Try.underlying5 Try.underlying9 (h := hr')
  have C2 : (convert 27 9 (.slice (some ad) l.length c)).run Try.prog w6 = .ok (.string (strOfNums l)) w6 := string_of_reads Try.underlying27 Try.underlying5 Try.underlying9 (h := P6.out.reads H0.out)
  clear R hr'
  rw [HBY.out] at C1 ⊢
  obtain ⟨c0, c1, c2, c3, c4, c5⟩ := P6.out.1.cells
  obtain ⟨d0, d1, d2, d3, d4, d5⟩ := P6.out.2.1.cells
  have f0 := P6.out.1.free 0
  have f1 := P6.out.1.free 1
  have f2 := P6.out.1.free 2
  have f3 := P6.out.1.free 3
  have f4 := P6.out.1.free 4
  have f5 := P6.out.1.free 5
  go_wp2_with fail
  refine bodyPost_ret (ret_cell_tmp rfl _ _ w.heap.size 25 _ (0, 0) _ (by rfl) (Box.set6 P6.out.1 _ _ _ _ _ _) Try.underlying25 rfl (by kernel_rfl)) rfl ?_
  exact ⟨rfl, below6 P6.out.2.2 (Nat.le_refl _) _ _ _ _ _ _⟩
set_option maxHeartbeats 4000000 in
set_option maxRecDepth 100000 in
theorem rdec_long_bad (ad : Addr) (c : Nat) (l : List Int) (w : World) (hr : ReadsInt w .u8 (some ad) l.length l) (hc : l.length ≤ c) (hl : 6 ≤ l.length) (x0 x1 x2 x3 x4 x5 x6 x7 x8 x9 : Int) (g0 : 0 ≤ x0 ∧ x0 ≤ 255) (q0 : l.getD 0 0 = x0) (g1 : 0 ≤ x1 ∧ x1 ≤ 255) (q1 : l.getD 1 0 = x1) (g2 : 0 ≤ x2 ∧ x2 ≤ 255) (q2 : l.getD 2 0 = x2) (g3 : 0 ≤ x3 ∧ x3 ≤ 255) (q3 : l.getD 3 0 = x3) (g4 : 0 ≤ x4 ∧ x4 ≤ 255) (q4 : l.getD 4 0 = x4) (g5 : 0 ≤ x5 ∧ x5 ≤ 255) (q5 : l.getD 5 0 = x5) (g6 : 0 ≤ x6 ∧ x6 ≤ 255) (q6 : l.getD 6 0 = x6) (g7 : 0 ≤ x7 ∧ x7 ≤ 255) (q7 : l.getD 7 0 = x7) (g8 : 0 ≤ x8 ∧ x8 ≤ 255) (q8 : l.getD 8 0 = x8) (g9 : 0 ≤ x9 ∧ x9 ≤ 255) (q9 : l.getD 9 0 = x9) (hk : x0 = 1) (hl2 : 12 ≤ l.length) (hw : (Fr.mk (x0) (x1) (x2 * 256 + x3) (x4) (x5) (x6 * 16777216 + x7 * 65536 + x8 * 256 + x9)).wf) (hs : (Fr.mk (x0) (x1) (x2 * 256 + x3) (x4) (x5) (x6 * 16777216 + x7 * 65536 + x8 * 256 + x9)).sound = false) :
    Calls Try.prog 20 #[.slice (some ad) l.length c] w (RBack w Fr.zero 30) := by
  have H0 := Aside0.mk hr
  have HL := Aside0.mk hl
  have HW := Aside0.mk hw
  have HS := Aside0.mk hs
  have Q0 := Aside0.mk q0
  have Q1 := Aside0.mk q1
  have Q2 := Aside0.mk q2
  have Q3 := Aside0.mk q3
  have Q4 := Aside0.mk q4
  have Q5 := Aside0.mk q5
  have Q6 := Aside0.mk q6
  have Q7 := Aside0.mk q7
  have Q8 := Aside0.mk q8
  have Q9 := Aside0.mk q9
  have e0 : decide ((l.length : Int) < 6) = false := decide_eq_false (by omega)
  have eA : (x0 == 1) = true := beq_iff_eq.mpr hk
  have eB : decide ((l.length : Int) ≥ 12) = true := decide_eq_true (by omega)
  have HL2 := Aside0.mk hl2
  have i0 : (0 : Int) < (l.length : Int) := by omega
  have n0 : 0 < l.length := by omega
  have n1 : 1 < l.length := by omega
  have n2 : 2 < l.length := by omega
  have n3 : 3 < l.length := by omega
  have i1 : (1 : Int) < (l.length : Int) := by omega
  have i2 : (2 : Int) < (l.length : Int) := by omega
  have i3 : (3 : Int) < (l.length : Int) := by omega
  have i4 : (4 : Int) < (l.length : Int) := by omega
  have n4 : 4 < l.length := by omega
  have i5 : (5 : Int) < (l.length : Int) := by omega
  have n5 : 5 < l.length := by omega
  have i6 : (6 : Int) < (l.length : Int) := by omega
  have n6 : 6 < l.length := by omega
  have i7 : (7 : Int) < (l.length : Int) := by omega
  have n7 : 7 < l.length := by omega
  have i8 : (8 : Int) < (l.length : Int) := by omega
  have n8 : 8 < l.length := by omega
  have i9 : (9 : Int) < (l.length : Int) := by omega
  have n9 : 9 < l.length := by omega
  have wa : IntKind.u16.wrap x2 = x2 := by rw [w16]; omega
  have wb : IntKind.u16.wrap (x2 * 256) = x2 * 256 := by rw [w16]; omega
  have wc : IntKind.u16.wrap x3 = x3 := by rw [w16]; omega
  have wd : IntKind.u16.wrap (x2 * 256 + x3) = x2 * 256 + x3 := by rw [w16]; omega
  clear hr hl hw hs hc hk hl2 q0 q1 q2 q3 q4 q5 q6 q7 q8 q9
  go_enter Try.func20, Try.ntmps20
  go_wp2_with fail
  have B0 := Aside0.mk (below_alloc (Below.refl w.heap.size w) (.cells #[.int .u8 0, .int .u8 0, .int .u16 0, .int .u8 0, .int .u8 0, .int .u32 0] 25))
  refine wp_region_held_drew (S := fun W => W.cell? ad = some (.int .u8 x0) ∧ W.cell? ⟨ad.block, ad.off + 1, none⟩ = some (.int .u8 x1) ∧ W.cell? ⟨ad.block, ad.off + 2, none⟩ = some (.int .u8 x2) ∧ W.cell? ⟨ad.block, ad.off + 3, none⟩ = some (.int .u8 x3)) (by kernel_rfl) ?_ (fun hHeld => ?_)
  · exact rheld (H0.out.below B0.out.drew) HL.out Q0.out Q1.out Q2.out Q3.out
  refine wpAnyH_take (i := 0) (v := ?v0) (rfl) (by kernel_rfl) (by kernel_rfl) (by kernel_rfl) (fun _ _ _ h => h) ?y0 (by assumption) ?r0
  case y0 => first | (refine Or.inr ⟨?_, ?_⟩; rfl; rfl) | (refine Or.inl ⟨?_, ?_⟩; rfl; intro w hSw; (try dsimp only at hSw); go_simp; try with_reducible rfl)
  simp only [Act.put, List.setIfInBounds_toArray, List.set_cons_zero, List.set_cons_succ, List.getElem_toArray, List.getElem_cons_succ, List.getElem_cons_zero]
  refine wpAnyH_take (i := 1) (v := ?v1) (rfl) (by kernel_rfl) (by kernel_rfl) (by kernel_rfl) (fun _ _ _ h => h) ?y1 (by assumption) ?r1
  case y1 => first | (refine Or.inr ⟨?_, ?_⟩; rfl; rfl) | (refine Or.inl ⟨?_, ?_⟩; rfl; intro w hSw; (try dsimp only at hSw); go_simp; try with_reducible rfl)
  simp only [Act.put, List.setIfInBounds_toArray, List.set_cons_zero, List.set_cons_succ, List.getElem_toArray, List.getElem_cons_succ, List.getElem_cons_zero]
  refine wpAnyH_take (i := 2) (v := ?v2) (rfl) (by kernel_rfl) (by kernel_rfl) (by kernel_rfl) (fun _ _ _ h => h) ?y2 (by assumption) ?r2
  case y2 => first | (refine Or.inr ⟨?_, ?_⟩; rfl; rfl) | (refine Or.inl ⟨?_, ?_⟩; rfl; intro w hSw; (try dsimp only at hSw); go_simp; try with_reducible rfl)
  simp only [Act.put, List.setIfInBounds_toArray, List.set_cons_zero, List.set_cons_succ, List.getElem_toArray, List.getElem_cons_succ, List.getElem_cons_zero]
  refine wpAnyH_take (i := 3) (v := ?v3) (rfl) (by kernel_rfl) (by kernel_rfl) (by kernel_rfl) (fun _ _ _ h => h) ?y3 (by assumption) ?r3
  case y3 => first | (refine Or.inr ⟨?_, ?_⟩; rfl; rfl) | (refine Or.inl ⟨?_, ?_⟩; rfl; intro w hSw; (try dsimp only at hSw); go_simp; try with_reducible rfl)
  simp only [Act.put, List.setIfInBounds_toArray, List.set_cons_zero, List.set_cons_succ, List.getElem_toArray, List.getElem_cons_succ, List.getElem_cons_zero]
  refine wpAnyH_take (i := 4) (v := ?v4) (rfl) (by kernel_rfl) (by kernel_rfl) (by kernel_rfl) (fun _ _ _ h => h) ?y4 (by assumption) ?r4
  case y4 => first | (refine Or.inr ⟨?_, ?_⟩; rfl; rfl) | (refine Or.inl ⟨?_, ?_⟩; rfl; intro w hSw; (try dsimp only at hSw); go_simp; try with_reducible rfl)
  simp only [Act.put, List.setIfInBounds_toArray, List.set_cons_zero, List.set_cons_succ, List.getElem_toArray, List.getElem_cons_succ, List.getElem_cons_zero]
  refine wpAnyH_take (i := 5) (v := ?v5) (rfl) (by kernel_rfl) (by kernel_rfl) (by kernel_rfl) (fun _ _ _ h => h) ?y5 (by assumption) ?r5
  case y5 => first | (refine Or.inr ⟨?_, ?_⟩; rfl; rfl) | (refine Or.inl ⟨?_, ?_⟩; rfl; intro w hSw; (try dsimp only at hSw); go_simp; try with_reducible rfl)
  simp only [Act.put, List.setIfInBounds_toArray, List.set_cons_zero, List.set_cons_succ, List.getElem_toArray, List.getElem_cons_succ, List.getElem_cons_zero]
  refine wpAnyH_take (i := 6) (v := ?v6) (rfl) (by kernel_rfl) (by kernel_rfl) (by kernel_rfl) (fun _ _ _ h => h) ?y6 (by assumption) ?r6
  case y6 => first | (refine Or.inr ⟨?_, ?_⟩; rfl; rfl) | (refine Or.inl ⟨?_, ?_⟩; rfl; intro w hSw; (try dsimp only at hSw); go_simp; try with_reducible rfl)
  simp only [Act.put, List.setIfInBounds_toArray, List.set_cons_zero, List.set_cons_succ, List.getElem_toArray, List.getElem_cons_succ, List.getElem_cons_zero]
  refine wpAnyH_take (i := 7) (v := ?v7) (rfl) (by kernel_rfl) (by kernel_rfl) (by kernel_rfl) (fun _ _ _ h => h) ?y7 (by assumption) ?r7
  case y7 => first | (refine Or.inr ⟨?_, ?_⟩; rfl; rfl) | (refine Or.inl ⟨?_, ?_⟩; rfl; intro w hSw; (try dsimp only at hSw); go_simp; try with_reducible rfl)
  simp only [Act.put, List.setIfInBounds_toArray, List.set_cons_zero, List.set_cons_succ, List.getElem_toArray, List.getElem_cons_succ, List.getElem_cons_zero]
  refine wpAnyH_take (i := 8) (v := ?v8) (rfl) (by kernel_rfl) (by kernel_rfl) (by kernel_rfl) (fun _ _ _ h => h) ?y8 (by assumption) ?r8
  case y8 => first | (refine Or.inr ⟨?_, ?_⟩; rfl; rfl) | (refine Or.inl ⟨?_, ?_⟩; rfl; intro w hSw; (try dsimp only at hSw); go_simp; try with_reducible rfl)
  simp only [Act.put, List.setIfInBounds_toArray, List.set_cons_zero, List.set_cons_succ, List.getElem_toArray, List.getElem_cons_succ, List.getElem_cons_zero]
  refine wpAnyH_take (i := 9) (v := ?v9) (rfl) (by kernel_rfl) (by kernel_rfl) (by kernel_rfl) (fun _ _ _ h => h) ?y9 (by assumption) ?r9
  case y9 => first | (refine Or.inr ⟨?_, ?_⟩; rfl; rfl) | (refine Or.inl ⟨?_, ?_⟩; rfl; intro w hSw; (try dsimp only at hSw); go_simp; try with_reducible rfl)
  simp only [Act.put, List.setIfInBounds_toArray, List.set_cons_zero, List.set_cons_succ, List.getElem_toArray, List.getElem_cons_succ, List.getElem_cons_zero]
  refine wpAnyH_take (i := 10) (v := ?v10) (rfl) (by kernel_rfl) (by kernel_rfl) (by kernel_rfl) (fun _ _ _ h => h) ?y10 (by assumption) ?r10
  case y10 => first | (refine Or.inr ⟨?_, ?_⟩; rfl; rfl) | (refine Or.inl ⟨?_, ?_⟩; rfl; intro w hSw; (try dsimp only at hSw); go_simp; try with_reducible rfl)
  simp only [Act.put, List.setIfInBounds_toArray, List.set_cons_zero, List.set_cons_succ, List.getElem_toArray, List.getElem_cons_succ, List.getElem_cons_zero]
  refine wpAnyH_take (i := 11) (v := ?v11) (rfl) (by kernel_rfl) (by kernel_rfl) (by kernel_rfl) (fun _ _ _ h => h) ?y11 (by assumption) ?r11
  case y11 => first | (refine Or.inr ⟨?_, ?_⟩; rfl; rfl) | (refine Or.inl ⟨?_, ?_⟩; rfl; intro w hSw; (try dsimp only at hSw); go_simp; try with_reducible rfl)
  simp only [Act.put, List.setIfInBounds_toArray, List.set_cons_zero, List.set_cons_succ, List.getElem_toArray, List.getElem_cons_succ, List.getElem_cons_zero]
  refine wpAnyH_take (i := 12) (v := ?v12) (rfl) (by kernel_rfl) (by kernel_rfl) (by kernel_rfl) (fun _ _ _ h => h) ?y12 (by assumption) ?r12
  case y12 => first | (refine Or.inr ⟨?_, ?_⟩; rfl; rfl) | (refine Or.inl ⟨?_, ?_⟩; rfl; intro w hSw; (try dsimp only at hSw); go_simp; try with_reducible rfl)
  simp only [Act.put, List.setIfInBounds_toArray, List.set_cons_zero, List.set_cons_succ, List.getElem_toArray, List.getElem_cons_succ, List.getElem_cons_zero]
  refine wpAnyH_take (i := 13) (v := ?v13) (rfl) (by kernel_rfl) (by kernel_rfl) (by kernel_rfl) (fun _ _ _ h => h) ?y13 (by assumption) ?r13
  case y13 => first | (refine Or.inr ⟨?_, ?_⟩; rfl; rfl) | (refine Or.inl ⟨?_, ?_⟩; rfl; intro w hSw; (try dsimp only at hSw); go_simp; try with_reducible rfl)
  simp only [Act.put, List.setIfInBounds_toArray, List.set_cons_zero, List.set_cons_succ, List.getElem_toArray, List.getElem_cons_succ, List.getElem_cons_zero]
  refine wpAnyH_take (i := 14) (v := ?v14) (rfl) (by kernel_rfl) (by kernel_rfl) (by kernel_rfl) (fun _ _ _ h => h) ?y14 (by assumption) ?r14
  case y14 => first | (refine Or.inr ⟨?_, ?_⟩; rfl; rfl) | (refine Or.inl ⟨?_, ?_⟩; rfl; intro w hSw; (try dsimp only at hSw); go_simp; try with_reducible rfl)
  simp only [Act.put, List.setIfInBounds_toArray, List.set_cons_zero, List.set_cons_succ, List.getElem_toArray, List.getElem_cons_succ, List.getElem_cons_zero]
  refine wpAnyH_take (i := 15) (v := ?v15) (rfl) (by kernel_rfl) (by kernel_rfl) (by kernel_rfl) (fun _ _ _ h => h) ?y15 (by assumption) ?r15
  case y15 => first | (refine Or.inr ⟨?_, ?_⟩; rfl; rfl) | (refine Or.inl ⟨?_, ?_⟩; rfl; intro w hSw; (try dsimp only at hSw); go_simp; try with_reducible rfl)
  simp only [Act.put, List.setIfInBounds_toArray, List.set_cons_zero, List.set_cons_succ, List.getElem_toArray, List.getElem_cons_succ, List.getElem_cons_zero]
  refine wpAnyH_take (i := 16) (v := ?v16) (rfl) (by kernel_rfl) (by kernel_rfl) (by kernel_rfl) (fun _ _ _ h => h) ?y16 (by assumption) ?r16
  case y16 => first | (refine Or.inr ⟨?_, ?_⟩; rfl; rfl) | (refine Or.inl ⟨?_, ?_⟩; rfl; intro w hSw; (try dsimp only at hSw); go_simp; try with_reducible rfl)
  simp only [Act.put, List.setIfInBounds_toArray, List.set_cons_zero, List.set_cons_succ, List.getElem_toArray, List.getElem_cons_succ, List.getElem_cons_zero]
  refine wpAnyH_ready (rs := [17]) (by kernel_rfl) (by simp) ?_
  refine AllReadyH.cons rfl (fun K hK => ?_) AllReadyH.nil
  go_simp
  try clear hHeld
  refine hK.out _ _ (rheld (H0.out.below (below_alloc B0.out.drew _)) HL.out Q0.out Q1.out Q2.out Q3.out) (fun hHeld => ?_)
  clear hK K
  try simp only [Act.put, List.setIfInBounds_toArray, List.set_cons_zero, List.set_cons_succ, List.getElem_toArray, List.getElem_cons_succ, List.getElem_cons_zero]
  have P2 := Aside0.mk (Pair.newer w x0 x1 (x2 * 256 + x3) 0 0 0)
  refine wpAnyH_ready (rs := [18]) (by kernel_rfl) (by simp) ?_
  refine AllReadyH.cons rfl (fun K hK => ?_) AllReadyH.nil
  go_simp
  try clear hHeld
  refine hK.out _ _ (rheld (P2.out.reads H0.out) HL.out Q0.out Q1.out Q2.out Q3.out) (fun hHeld => ?_)
  clear hK K
  try simp only [Act.put, List.setIfInBounds_toArray, List.set_cons_zero, List.set_cons_succ, List.getElem_toArray, List.getElem_cons_succ, List.getElem_cons_zero]
  refine wpAnyH_done (by kernel_rfl) ?_ _
  clear hHeld
  generalize ((w.alloc (.cells #[.int .u8 0, .int .u8 0, .int .u16 0, .int .u8 0, .int .u8 0, .int .u32 0] 25)).alloc (.cells #[.int .u8 x0, .int .u8 x1, .int .u16 (x2 * 256 + x3), .int .u8 0, .int .u8 0, .int .u32 0] 25)).drew = w3 at P2 ⊢
  obtain ⟨d0, d1, d2, d3, d4, d5⟩ := P2.out.2.1.cells
  obtain ⟨k0, k1, k2, k3, k4⟩ := held10a P2.out H0.out HL2.out Q4.out Q5.out
  obtain ⟨m0, m1, m2, m3, m4⟩ := kept10a P2.out H0.out HL2.out Q4.out Q5.out x4
  go_wp2_with fail
  clear k0 k1 k2 k3 k4 m0 m1 m2 m3 m4 d0 d1 d2 d3 d4 d5
  have P3 := Aside0.mk (P2.out.two x4 x5)
  generalize (w3.setCell ⟨w.heap.size + 1, 3, none⟩ (.int .u8 x4)).setCell ⟨w.heap.size + 1, 4, none⟩ (.int .u8 x5) = w4 at P3 ⊢
  have va : IntKind.u32.wrap x6 = x6 := by rw [w32]; omega
  have vb : IntKind.u32.wrap (x6 * 16777216) = x6 * 16777216 := by rw [w32]; omega
  have vc : IntKind.u32.wrap x7 = x7 := by rw [w32]; omega
  have vd : IntKind.u32.wrap (x7 * 65536) = x7 * 65536 := by rw [w32]; omega
  have ve : IntKind.u32.wrap (x6 * 16777216 + x7 * 65536) = x6 * 16777216 + x7 * 65536 := by rw [w32]; omega
  have vf : IntKind.u32.wrap x8 = x8 := by rw [w32]; omega
  have vg : IntKind.u32.wrap (x8 * 256) = x8 * 256 := by rw [w32]; omega
  have vh : IntKind.u32.wrap (x6 * 16777216 + x7 * 65536 + x8 * 256) = x6 * 16777216 + x7 * 65536 + x8 * 256 := by rw [w32]; omega
  have vi : IntKind.u32.wrap x9 = x9 := by rw [w32]; omega
  have vj : IntKind.u32.wrap (x6 * 16777216 + x7 * 65536 + x8 * 256 + x9) = x6 * 16777216 + x7 * 65536 + x8 * 256 + x9 := by rw [w32]; omega
  have f5 := P3.out.2.1.free 5
  obtain ⟨-, -, -, -, -, k5⟩ := P3.out.2.1.cells
  refine wp_region_held_drew (S := fun W => W.cell? ⟨ad.block, ad.off + 6, none⟩ = some (.int .u8 x6) ∧ W.cell? ⟨ad.block, ad.off + 7, none⟩ = some (.int .u8 x7) ∧ W.cell? ⟨ad.block, ad.off + 8, none⟩ = some (.int .u8 x8) ∧ W.cell? ⟨ad.block, ad.off + 9, none⟩ = some (.int .u8 x9)) (by kernel_rfl) ?_ (fun hHeld => ?_)
  · exact rheld4 (P3.out.drew.reads H0.out) HL2.out Q6.out Q7.out Q8.out Q9.out
  refine wpAnyH_take (i := 0) (v := ?vb0) (rfl) (by kernel_rfl) (by kernel_rfl) (by kernel_rfl) (fun _ _ _ h => h) ?yb0 (by assumption) ?rb0
  case yb0 => first | (refine Or.inr ⟨?_, ?_⟩; rfl; rfl) | (refine Or.inl ⟨?_, ?_⟩; rfl; intro w hSw; (try dsimp only at hSw); go_simp; try with_reducible rfl)
  simp only [Act.put, List.setIfInBounds_toArray, List.set_cons_zero, List.set_cons_succ, List.getElem_toArray, List.getElem_cons_succ, List.getElem_cons_zero]
  refine wpAnyH_take (i := 1) (v := ?vb1) (rfl) (by kernel_rfl) (by kernel_rfl) (by kernel_rfl) (fun _ _ _ h => h) ?yb1 (by assumption) ?rb1
  case yb1 => first | (refine Or.inr ⟨?_, ?_⟩; rfl; rfl) | (refine Or.inl ⟨?_, ?_⟩; rfl; intro w hSw; (try dsimp only at hSw); go_simp; try with_reducible rfl)
  simp only [Act.put, List.setIfInBounds_toArray, List.set_cons_zero, List.set_cons_succ, List.getElem_toArray, List.getElem_cons_succ, List.getElem_cons_zero]
  refine wpAnyH_take (i := 2) (v := ?vb2) (rfl) (by kernel_rfl) (by kernel_rfl) (by kernel_rfl) (fun _ _ _ h => h) ?yb2 (by assumption) ?rb2
  case yb2 => first | (refine Or.inr ⟨?_, ?_⟩; rfl; rfl) | (refine Or.inl ⟨?_, ?_⟩; rfl; intro w hSw; (try dsimp only at hSw); go_simp; try with_reducible rfl)
  simp only [Act.put, List.setIfInBounds_toArray, List.set_cons_zero, List.set_cons_succ, List.getElem_toArray, List.getElem_cons_succ, List.getElem_cons_zero]
  refine wpAnyH_take (i := 3) (v := ?vb3) (rfl) (by kernel_rfl) (by kernel_rfl) (by kernel_rfl) (fun _ _ _ h => h) ?yb3 (by assumption) ?rb3
  case yb3 => first | (refine Or.inr ⟨?_, ?_⟩; rfl; rfl) | (refine Or.inl ⟨?_, ?_⟩; rfl; intro w hSw; (try dsimp only at hSw); go_simp; try with_reducible rfl)
  simp only [Act.put, List.setIfInBounds_toArray, List.set_cons_zero, List.set_cons_succ, List.getElem_toArray, List.getElem_cons_succ, List.getElem_cons_zero]
  refine wpAnyH_take (i := 4) (v := ?vb4) (rfl) (by kernel_rfl) (by kernel_rfl) (by kernel_rfl) (fun _ _ _ h => h) ?yb4 (by assumption) ?rb4
  case yb4 => first | (refine Or.inr ⟨?_, ?_⟩; rfl; rfl) | (refine Or.inl ⟨?_, ?_⟩; rfl; intro w hSw; (try dsimp only at hSw); go_simp; try with_reducible rfl)
  simp only [Act.put, List.setIfInBounds_toArray, List.set_cons_zero, List.set_cons_succ, List.getElem_toArray, List.getElem_cons_succ, List.getElem_cons_zero]
  refine wpAnyH_take (i := 5) (v := ?vb5) (rfl) (by kernel_rfl) (by kernel_rfl) (by kernel_rfl) (fun _ _ _ h => h) ?yb5 (by assumption) ?rb5
  case yb5 => first | (refine Or.inr ⟨?_, ?_⟩; rfl; rfl) | (refine Or.inl ⟨?_, ?_⟩; rfl; intro w hSw; (try dsimp only at hSw); go_simp; try with_reducible rfl)
  simp only [Act.put, List.setIfInBounds_toArray, List.set_cons_zero, List.set_cons_succ, List.getElem_toArray, List.getElem_cons_succ, List.getElem_cons_zero]
  refine wpAnyH_take (i := 6) (v := ?vb6) (rfl) (by kernel_rfl) (by kernel_rfl) (by kernel_rfl) (fun _ _ _ h => h) ?yb6 (by assumption) ?rb6
  case yb6 => first | (refine Or.inr ⟨?_, ?_⟩; rfl; rfl) | (refine Or.inl ⟨?_, ?_⟩; rfl; intro w hSw; (try dsimp only at hSw); go_simp; try with_reducible rfl)
  simp only [Act.put, List.setIfInBounds_toArray, List.set_cons_zero, List.set_cons_succ, List.getElem_toArray, List.getElem_cons_succ, List.getElem_cons_zero]
  refine wpAnyH_take (i := 7) (v := ?vb7) (rfl) (by kernel_rfl) (by kernel_rfl) (by kernel_rfl) (fun _ _ _ h => h) ?yb7 (by assumption) ?rb7
  case yb7 => first | (refine Or.inr ⟨?_, ?_⟩; rfl; rfl) | (refine Or.inl ⟨?_, ?_⟩; rfl; intro w hSw; (try dsimp only at hSw); go_simp; try with_reducible rfl)
  simp only [Act.put, List.setIfInBounds_toArray, List.set_cons_zero, List.set_cons_succ, List.getElem_toArray, List.getElem_cons_succ, List.getElem_cons_zero]
  refine wpAnyH_take (i := 8) (v := ?vb8) (rfl) (by kernel_rfl) (by kernel_rfl) (by kernel_rfl) (fun _ _ _ h => h) ?yb8 (by assumption) ?rb8
  case yb8 => first | (refine Or.inr ⟨?_, ?_⟩; rfl; rfl) | (refine Or.inl ⟨?_, ?_⟩; rfl; intro w hSw; (try dsimp only at hSw); go_simp; try with_reducible rfl)
  simp only [Act.put, List.setIfInBounds_toArray, List.set_cons_zero, List.set_cons_succ, List.getElem_toArray, List.getElem_cons_succ, List.getElem_cons_zero]
  refine wpAnyH_take (i := 9) (v := ?vb9) (rfl) (by kernel_rfl) (by kernel_rfl) (by kernel_rfl) (fun _ _ _ h => h) ?yb9 (by assumption) ?rb9
  case yb9 => first | (refine Or.inr ⟨?_, ?_⟩; rfl; rfl) | (refine Or.inl ⟨?_, ?_⟩; rfl; intro w hSw; (try dsimp only at hSw); go_simp; try with_reducible rfl)
  simp only [Act.put, List.setIfInBounds_toArray, List.set_cons_zero, List.set_cons_succ, List.getElem_toArray, List.getElem_cons_succ, List.getElem_cons_zero]
  refine wpAnyH_take (i := 10) (v := ?vb10) (rfl) (by kernel_rfl) (by kernel_rfl) (by kernel_rfl) (fun _ _ _ h => h) ?yb10 (by assumption) ?rb10
  case yb10 => first | (refine Or.inr ⟨?_, ?_⟩; rfl; rfl) | (refine Or.inl ⟨?_, ?_⟩; rfl; intro w hSw; (try dsimp only at hSw); go_simp; try with_reducible rfl)
  simp only [Act.put, List.setIfInBounds_toArray, List.set_cons_zero, List.set_cons_succ, List.getElem_toArray, List.getElem_cons_succ, List.getElem_cons_zero]
  refine wpAnyH_take (i := 11) (v := ?vb11) (rfl) (by kernel_rfl) (by kernel_rfl) (by kernel_rfl) (fun _ _ _ h => h) ?yb11 (by assumption) ?rb11
  case yb11 => first | (refine Or.inr ⟨?_, ?_⟩; rfl; rfl) | (refine Or.inl ⟨?_, ?_⟩; rfl; intro w hSw; (try dsimp only at hSw); go_simp; try with_reducible rfl)
  simp only [Act.put, List.setIfInBounds_toArray, List.set_cons_zero, List.set_cons_succ, List.getElem_toArray, List.getElem_cons_succ, List.getElem_cons_zero]
  refine wpAnyH_take (i := 12) (v := ?vb12) (rfl) (by kernel_rfl) (by kernel_rfl) (by kernel_rfl) (fun _ _ _ h => h) ?yb12 (by assumption) ?rb12
  case yb12 => first | (refine Or.inr ⟨?_, ?_⟩; rfl; rfl) | (refine Or.inl ⟨?_, ?_⟩; rfl; intro w hSw; (try dsimp only at hSw); go_simp; try with_reducible rfl)
  simp only [Act.put, List.setIfInBounds_toArray, List.set_cons_zero, List.set_cons_succ, List.getElem_toArray, List.getElem_cons_succ, List.getElem_cons_zero]
  refine wpAnyH_take (i := 13) (v := ?vb13) (rfl) (by kernel_rfl) (by kernel_rfl) (by kernel_rfl) (fun _ _ _ h => h) ?yb13 (by assumption) ?rb13
  case yb13 => first | (refine Or.inr ⟨?_, ?_⟩; rfl; rfl) | (refine Or.inl ⟨?_, ?_⟩; rfl; intro w hSw; (try dsimp only at hSw); go_simp; try with_reducible rfl)
  simp only [Act.put, List.setIfInBounds_toArray, List.set_cons_zero, List.set_cons_succ, List.getElem_toArray, List.getElem_cons_succ, List.getElem_cons_zero]
  refine wpAnyH_take (i := 14) (v := ?vb14) (rfl) (by kernel_rfl) (by kernel_rfl) (by kernel_rfl) (fun _ _ _ h => h) ?yb14 (by assumption) ?rb14
  case yb14 => first | (refine Or.inr ⟨?_, ?_⟩; rfl; rfl) | (refine Or.inl ⟨?_, ?_⟩; rfl; intro w hSw; (try dsimp only at hSw); go_simp; try with_reducible rfl)
  simp only [Act.put, List.setIfInBounds_toArray, List.set_cons_zero, List.set_cons_succ, List.getElem_toArray, List.getElem_cons_succ, List.getElem_cons_zero]
  refine wpAnyH_take (i := 15) (v := ?vb15) (rfl) (by kernel_rfl) (by kernel_rfl) (by kernel_rfl) (fun _ _ _ h => h) ?yb15 (by assumption) ?rb15
  case yb15 => first | (refine Or.inr ⟨?_, ?_⟩; rfl; rfl) | (refine Or.inl ⟨?_, ?_⟩; rfl; intro w hSw; (try dsimp only at hSw); go_simp; try with_reducible rfl)
  simp only [Act.put, List.setIfInBounds_toArray, List.set_cons_zero, List.set_cons_succ, List.getElem_toArray, List.getElem_cons_succ, List.getElem_cons_zero]
  refine wpAnyH_take (i := 16) (v := ?vb16) (rfl) (by kernel_rfl) (by kernel_rfl) (by kernel_rfl) (fun _ _ _ h => h) ?yb16 (by assumption) ?rb16
  case yb16 => first | (refine Or.inr ⟨?_, ?_⟩; rfl; rfl) | (refine Or.inl ⟨?_, ?_⟩; rfl; intro w hSw; (try dsimp only at hSw); go_simp; try with_reducible rfl)
  simp only [Act.put, List.setIfInBounds_toArray, List.set_cons_zero, List.set_cons_succ, List.getElem_toArray, List.getElem_cons_succ, List.getElem_cons_zero]
  refine wpAnyH_take (i := 17) (v := ?vb17) (rfl) (by kernel_rfl) (by kernel_rfl) (by kernel_rfl) (fun _ _ _ h => h) ?yb17 (by assumption) ?rb17
  case yb17 => first | (refine Or.inr ⟨?_, ?_⟩; rfl; rfl) | (refine Or.inl ⟨?_, ?_⟩; rfl; intro w hSw; (try dsimp only at hSw); go_simp; try with_reducible rfl)
  simp only [Act.put, List.setIfInBounds_toArray, List.set_cons_zero, List.set_cons_succ, List.getElem_toArray, List.getElem_cons_succ, List.getElem_cons_zero]
  refine wpAnyH_take (i := 18) (v := ?vb18) (rfl) (by kernel_rfl) (by kernel_rfl) (by kernel_rfl) (fun _ _ _ h => h) ?yb18 (by assumption) ?rb18
  case yb18 => first | (refine Or.inr ⟨?_, ?_⟩; rfl; rfl) | (refine Or.inl ⟨?_, ?_⟩; rfl; intro w hSw; (try dsimp only at hSw); go_simp; try with_reducible rfl)
  simp only [Act.put, List.setIfInBounds_toArray, List.set_cons_zero, List.set_cons_succ, List.getElem_toArray, List.getElem_cons_succ, List.getElem_cons_zero]
  refine wpAnyH_take (i := 19) (v := ?vb19) (rfl) (by kernel_rfl) (by kernel_rfl) (by kernel_rfl) (fun _ _ _ h => h) ?yb19 (by assumption) ?rb19
  case yb19 => first | (refine Or.inr ⟨?_, ?_⟩; rfl; rfl) | (refine Or.inl ⟨?_, ?_⟩; rfl; intro w hSw; (try dsimp only at hSw); go_simp; try with_reducible rfl)
  simp only [Act.put, List.setIfInBounds_toArray, List.set_cons_zero, List.set_cons_succ, List.getElem_toArray, List.getElem_cons_succ, List.getElem_cons_zero]
  refine wpAnyH_take (i := 20) (v := ?vb20) (rfl) (by kernel_rfl) (by kernel_rfl) (by kernel_rfl) (fun _ _ _ h => h) ?yb20 (by assumption) ?rb20
  case yb20 => first | (refine Or.inr ⟨?_, ?_⟩; rfl; rfl) | (refine Or.inl ⟨?_, ?_⟩; rfl; intro w hSw; (try dsimp only at hSw); go_simp; try with_reducible rfl)
  simp only [Act.put, List.setIfInBounds_toArray, List.set_cons_zero, List.set_cons_succ, List.getElem_toArray, List.getElem_cons_succ, List.getElem_cons_zero]
  refine wpAnyH_take (i := 21) (v := ?vb21) (rfl) (by kernel_rfl) (by kernel_rfl) (by kernel_rfl) (fun _ _ _ h => h) ?yb21 (by assumption) ?rb21
  case yb21 => first | (refine Or.inr ⟨?_, ?_⟩; rfl; rfl) | (refine Or.inl ⟨?_, ?_⟩; rfl; intro w hSw; (try dsimp only at hSw); go_simp; try with_reducible rfl)
  simp only [Act.put, List.setIfInBounds_toArray, List.set_cons_zero, List.set_cons_succ, List.getElem_toArray, List.getElem_cons_succ, List.getElem_cons_zero]
  refine wpAnyH_take (i := 22) (v := ?vb22) (rfl) (by kernel_rfl) (by kernel_rfl) (by kernel_rfl) (fun _ _ _ h => h) ?yb22 (by assumption) ?rb22
  case yb22 => first | (refine Or.inr ⟨?_, ?_⟩; rfl; rfl) | (refine Or.inl ⟨?_, ?_⟩; rfl; intro w hSw; (try dsimp only at hSw); go_simp; try with_reducible rfl)
  simp only [Act.put, List.setIfInBounds_toArray, List.set_cons_zero, List.set_cons_succ, List.getElem_toArray, List.getElem_cons_succ, List.getElem_cons_zero]
  refine wpAnyH_ready (rs := [23]) (by kernel_rfl) (by simp) ?_
  refine AllReadyH.cons rfl (fun K hK => ?_) AllReadyH.nil
  go_simp
  try clear hHeld
  refine hK.out _ _ (rheld4 ((P3.out.one (x6 * 16777216 + x7 * 65536 + x8 * 256 + x9)).drew.reads H0.out) HL2.out Q6.out Q7.out Q8.out Q9.out) (fun hHeld => ?_)
  clear hK K
  try simp only [Act.put, List.setIfInBounds_toArray, List.set_cons_zero, List.set_cons_succ, List.getElem_toArray, List.getElem_cons_succ, List.getElem_cons_zero]
  refine wpAnyH_done (by kernel_rfl) ?_ _
  clear hHeld
  have P4 := Aside0.mk (P3.out.one (x6 * 16777216 + x7 * 65536 + x8 * 256 + x9)).drew
  generalize (w4.setCell ⟨w.heap.size + 1, 5, none⟩ (.int .u32 (x6 * 16777216 + x7 * 65536 + x8 * 256 + x9))).drew = w5 at P4 ⊢
  clear f5 k5 va vb vc vd ve vf vg vh vi vj
  obtain ⟨d0, d1, d2, d3, d4, d5⟩ := P4.out.2.1.cells
  clear wa wb wc wd
  go_wp2_with fail
  clear d0 d1 d2 d3 d4 d5
  refine (renc_no (Fr.mk (x0) (x1) (x2 * 256 + x3) (x4) (x5) (x6 * 16777216 + x7 * 65536 + x8 * 256 + x9)) _ HW.out HS.out).mono ?_
  rintro e w6 ⟨rfl, hb⟩
  have P6 := Aside0.mk (P4.out.below hb)
  clear hb
  obtain ⟨c0, c1, c2, c3, c4, c5⟩ := P6.out.1.cells
  obtain ⟨d0, d1, d2, d3, d4, d5⟩ := P6.out.2.1.cells
  have f0 := P6.out.1.free 0
  have f1 := P6.out.1.free 1
  have f2 := P6.out.1.free 2
  have f3 := P6.out.1.free 3
  have f4 := P6.out.1.free 4
  have f5 := P6.out.1.free 5
  go_wp2_with fail
  refine bodyPost_ret (ret_cell_tmp rfl _ _ w.heap.size 25 _ (0, 0) _ (by rfl) (Box.set6 P6.out.1 _ _ _ _ _ _) Try.underlying25 rfl (by kernel_rfl)) rfl ?_
  exact ⟨rfl, below6 P6.out.2.2 (Nat.le_refl _) _ _ _ _ _ _⟩
set_option maxHeartbeats 4000000 in
set_option maxRecDepth 100000 in
theorem rdec_long_not (ad : Addr) (c : Nat) (l : List Int) (w : World) (hr : ReadsInt w .u8 (some ad) l.length l) (hc : l.length ≤ c) (hl : 6 ≤ l.length) (x0 x1 x2 x3 x4 x5 x6 x7 x8 x9 : Int) (g0 : 0 ≤ x0 ∧ x0 ≤ 255) (q0 : l.getD 0 0 = x0) (g1 : 0 ≤ x1 ∧ x1 ≤ 255) (q1 : l.getD 1 0 = x1) (g2 : 0 ≤ x2 ∧ x2 ≤ 255) (q2 : l.getD 2 0 = x2) (g3 : 0 ≤ x3 ∧ x3 ≤ 255) (q3 : l.getD 3 0 = x3) (g4 : 0 ≤ x4 ∧ x4 ≤ 255) (q4 : l.getD 4 0 = x4) (g5 : 0 ≤ x5 ∧ x5 ≤ 255) (q5 : l.getD 5 0 = x5) (g6 : 0 ≤ x6 ∧ x6 ≤ 255) (q6 : l.getD 6 0 = x6) (g7 : 0 ≤ x7 ∧ x7 ≤ 255) (q7 : l.getD 7 0 = x7) (g8 : 0 ≤ x8 ∧ x8 ≤ 255) (q8 : l.getD 8 0 = x8) (g9 : 0 ≤ x9 ∧ x9 ≤ 255) (q9 : l.getD 9 0 = x9) (hk : x0 = 1) (hl2 : 12 ≤ l.length) (hw : (Fr.mk (x0) (x1) (x2 * 256 + x3) (x4) (x5) (x6 * 16777216 + x7 * 65536 + x8 * 256 + x9)).wf) (hs : (Fr.mk (x0) (x1) (x2 * 256 + x3) (x4) (x5) (x6 * 16777216 + x7 * 65536 + x8 * 256 + x9)).sound = true) (hbn : ((strOfNums (Fr.mk (x0) (x1) (x2 * 256 + x3) (x4) (x5) (x6 * 16777216 + x7 * 65536 + x8 * 256 + x9)).bytes).toList != (strOfNums l).toList) = true) (hbn2 : ((strOfNums (Fr.mk (x0) (x1) (x2 * 256 + x3) (x4) (x5) (x6 * 16777216 + x7 * 65536 + x8 * 256 + x9)).bytes).toList == (strOfNums l).toList) = false) :
    Calls Try.prog 20 #[.slice (some ad) l.length c] w (RBack w Fr.zero 30) := by
  have H0 := Aside0.mk hr
  have HL := Aside0.mk hl
  have HW := Aside0.mk hw
  have HS := Aside0.mk hs
  have Q0 := Aside0.mk q0
  have Q1 := Aside0.mk q1
  have Q2 := Aside0.mk q2
  have Q3 := Aside0.mk q3
  have Q4 := Aside0.mk q4
  have Q5 := Aside0.mk q5
  have Q6 := Aside0.mk q6
  have Q7 := Aside0.mk q7
  have Q8 := Aside0.mk q8
  have Q9 := Aside0.mk q9
  have HBN := Aside0.mk hbn
  have HBM := Aside0.mk hbn2
  clear hbn hbn2
  have e0 : decide ((l.length : Int) < 6) = false := decide_eq_false (by omega)
  have eA : (x0 == 1) = true := beq_iff_eq.mpr hk
  have eB : decide ((l.length : Int) ≥ 12) = true := decide_eq_true (by omega)
  have HL2 := Aside0.mk hl2
  have i0 : (0 : Int) < (l.length : Int) := by omega
  have n0 : 0 < l.length := by omega
  have n1 : 1 < l.length := by omega
  have n2 : 2 < l.length := by omega
  have n3 : 3 < l.length := by omega
  have i1 : (1 : Int) < (l.length : Int) := by omega
  have i2 : (2 : Int) < (l.length : Int) := by omega
  have i3 : (3 : Int) < (l.length : Int) := by omega
  have i4 : (4 : Int) < (l.length : Int) := by omega
  have n4 : 4 < l.length := by omega
  have i5 : (5 : Int) < (l.length : Int) := by omega
  have n5 : 5 < l.length := by omega
  have i6 : (6 : Int) < (l.length : Int) := by omega
  have n6 : 6 < l.length := by omega
  have i7 : (7 : Int) < (l.length : Int) := by omega
  have n7 : 7 < l.length := by omega
  have i8 : (8 : Int) < (l.length : Int) := by omega
  have n8 : 8 < l.length := by omega
  have i9 : (9 : Int) < (l.length : Int) := by omega
  have n9 : 9 < l.length := by omega
  have wa : IntKind.u16.wrap x2 = x2 := by rw [w16]; omega
  have wb : IntKind.u16.wrap (x2 * 256) = x2 * 256 := by rw [w16]; omega
  have wc : IntKind.u16.wrap x3 = x3 := by rw [w16]; omega
  have wd : IntKind.u16.wrap (x2 * 256 + x3) = x2 * 256 + x3 := by rw [w16]; omega
  clear hr hl hw hs hc hk hl2 q0 q1 q2 q3 q4 q5 q6 q7 q8 q9
  go_enter Try.func20, Try.ntmps20
  go_wp2_with fail
  have B0 := Aside0.mk (below_alloc (Below.refl w.heap.size w) (.cells #[.int .u8 0, .int .u8 0, .int .u16 0, .int .u8 0, .int .u8 0, .int .u32 0] 25))
  refine wp_region_held_drew (S := fun W => W.cell? ad = some (.int .u8 x0) ∧ W.cell? ⟨ad.block, ad.off + 1, none⟩ = some (.int .u8 x1) ∧ W.cell? ⟨ad.block, ad.off + 2, none⟩ = some (.int .u8 x2) ∧ W.cell? ⟨ad.block, ad.off + 3, none⟩ = some (.int .u8 x3)) (by kernel_rfl) ?_ (fun hHeld => ?_)
  · exact rheld (H0.out.below B0.out.drew) HL.out Q0.out Q1.out Q2.out Q3.out
  refine wpAnyH_take (i := 0) (v := ?v0) (rfl) (by kernel_rfl) (by kernel_rfl) (by kernel_rfl) (fun _ _ _ h => h) ?y0 (by assumption) ?r0
  case y0 => first | (refine Or.inr ⟨?_, ?_⟩; rfl; rfl) | (refine Or.inl ⟨?_, ?_⟩; rfl; intro w hSw; (try dsimp only at hSw); go_simp; try with_reducible rfl)
  simp only [Act.put, List.setIfInBounds_toArray, List.set_cons_zero, List.set_cons_succ, List.getElem_toArray, List.getElem_cons_succ, List.getElem_cons_zero]
  refine wpAnyH_take (i := 1) (v := ?v1) (rfl) (by kernel_rfl) (by kernel_rfl) (by kernel_rfl) (fun _ _ _ h => h) ?y1 (by assumption) ?r1
  case y1 => first | (refine Or.inr ⟨?_, ?_⟩; rfl; rfl) | (refine Or.inl ⟨?_, ?_⟩; rfl; intro w hSw; (try dsimp only at hSw); go_simp; try with_reducible rfl)
  simp only [Act.put, List.setIfInBounds_toArray, List.set_cons_zero, List.set_cons_succ, List.getElem_toArray, List.getElem_cons_succ, List.getElem_cons_zero]
  refine wpAnyH_take (i := 2) (v := ?v2) (rfl) (by kernel_rfl) (by kernel_rfl) (by kernel_rfl) (fun _ _ _ h => h) ?y2 (by assumption) ?r2
  case y2 => first | (refine Or.inr ⟨?_, ?_⟩; rfl; rfl) | (refine Or.inl ⟨?_, ?_⟩; rfl; intro w hSw; (try dsimp only at hSw); go_simp; try with_reducible rfl)
  simp only [Act.put, List.setIfInBounds_toArray, List.set_cons_zero, List.set_cons_succ, List.getElem_toArray, List.getElem_cons_succ, List.getElem_cons_zero]
  refine wpAnyH_take (i := 3) (v := ?v3) (rfl) (by kernel_rfl) (by kernel_rfl) (by kernel_rfl) (fun _ _ _ h => h) ?y3 (by assumption) ?r3
  case y3 => first | (refine Or.inr ⟨?_, ?_⟩; rfl; rfl) | (refine Or.inl ⟨?_, ?_⟩; rfl; intro w hSw; (try dsimp only at hSw); go_simp; try with_reducible rfl)
  simp only [Act.put, List.setIfInBounds_toArray, List.set_cons_zero, List.set_cons_succ, List.getElem_toArray, List.getElem_cons_succ, List.getElem_cons_zero]
  refine wpAnyH_take (i := 4) (v := ?v4) (rfl) (by kernel_rfl) (by kernel_rfl) (by kernel_rfl) (fun _ _ _ h => h) ?y4 (by assumption) ?r4
  case y4 => first | (refine Or.inr ⟨?_, ?_⟩; rfl; rfl) | (refine Or.inl ⟨?_, ?_⟩; rfl; intro w hSw; (try dsimp only at hSw); go_simp; try with_reducible rfl)
  simp only [Act.put, List.setIfInBounds_toArray, List.set_cons_zero, List.set_cons_succ, List.getElem_toArray, List.getElem_cons_succ, List.getElem_cons_zero]
  refine wpAnyH_take (i := 5) (v := ?v5) (rfl) (by kernel_rfl) (by kernel_rfl) (by kernel_rfl) (fun _ _ _ h => h) ?y5 (by assumption) ?r5
  case y5 => first | (refine Or.inr ⟨?_, ?_⟩; rfl; rfl) | (refine Or.inl ⟨?_, ?_⟩; rfl; intro w hSw; (try dsimp only at hSw); go_simp; try with_reducible rfl)
  simp only [Act.put, List.setIfInBounds_toArray, List.set_cons_zero, List.set_cons_succ, List.getElem_toArray, List.getElem_cons_succ, List.getElem_cons_zero]
  refine wpAnyH_take (i := 6) (v := ?v6) (rfl) (by kernel_rfl) (by kernel_rfl) (by kernel_rfl) (fun _ _ _ h => h) ?y6 (by assumption) ?r6
  case y6 => first | (refine Or.inr ⟨?_, ?_⟩; rfl; rfl) | (refine Or.inl ⟨?_, ?_⟩; rfl; intro w hSw; (try dsimp only at hSw); go_simp; try with_reducible rfl)
  simp only [Act.put, List.setIfInBounds_toArray, List.set_cons_zero, List.set_cons_succ, List.getElem_toArray, List.getElem_cons_succ, List.getElem_cons_zero]
  refine wpAnyH_take (i := 7) (v := ?v7) (rfl) (by kernel_rfl) (by kernel_rfl) (by kernel_rfl) (fun _ _ _ h => h) ?y7 (by assumption) ?r7
  case y7 => first | (refine Or.inr ⟨?_, ?_⟩; rfl; rfl) | (refine Or.inl ⟨?_, ?_⟩; rfl; intro w hSw; (try dsimp only at hSw); go_simp; try with_reducible rfl)
  simp only [Act.put, List.setIfInBounds_toArray, List.set_cons_zero, List.set_cons_succ, List.getElem_toArray, List.getElem_cons_succ, List.getElem_cons_zero]
  refine wpAnyH_take (i := 8) (v := ?v8) (rfl) (by kernel_rfl) (by kernel_rfl) (by kernel_rfl) (fun _ _ _ h => h) ?y8 (by assumption) ?r8
  case y8 => first | (refine Or.inr ⟨?_, ?_⟩; rfl; rfl) | (refine Or.inl ⟨?_, ?_⟩; rfl; intro w hSw; (try dsimp only at hSw); go_simp; try with_reducible rfl)
  simp only [Act.put, List.setIfInBounds_toArray, List.set_cons_zero, List.set_cons_succ, List.getElem_toArray, List.getElem_cons_succ, List.getElem_cons_zero]
  refine wpAnyH_take (i := 9) (v := ?v9) (rfl) (by kernel_rfl) (by kernel_rfl) (by kernel_rfl) (fun _ _ _ h => h) ?y9 (by assumption) ?r9
  case y9 => first | (refine Or.inr ⟨?_, ?_⟩; rfl; rfl) | (refine Or.inl ⟨?_, ?_⟩; rfl; intro w hSw; (try dsimp only at hSw); go_simp; try with_reducible rfl)
  simp only [Act.put, List.setIfInBounds_toArray, List.set_cons_zero, List.set_cons_succ, List.getElem_toArray, List.getElem_cons_succ, List.getElem_cons_zero]
  refine wpAnyH_take (i := 10) (v := ?v10) (rfl) (by kernel_rfl) (by kernel_rfl) (by kernel_rfl) (fun _ _ _ h => h) ?y10 (by assumption) ?r10
  case y10 => first | (refine Or.inr ⟨?_, ?_⟩; rfl; rfl) | (refine Or.inl ⟨?_, ?_⟩; rfl; intro w hSw; (try dsimp only at hSw); go_simp; try with_reducible rfl)
  simp only [Act.put, List.setIfInBounds_toArray, List.set_cons_zero, List.set_cons_succ, List.getElem_toArray, List.getElem_cons_succ, List.getElem_cons_zero]
  refine wpAnyH_take (i := 11) (v := ?v11) (rfl) (by kernel_rfl) (by kernel_rfl) (by kernel_rfl) (fun _ _ _ h => h) ?y11 (by assumption) ?r11
  case y11 => first | (refine Or.inr ⟨?_, ?_⟩; rfl; rfl) | (refine Or.inl ⟨?_, ?_⟩; rfl; intro w hSw; (try dsimp only at hSw); go_simp; try with_reducible rfl)
  simp only [Act.put, List.setIfInBounds_toArray, List.set_cons_zero, List.set_cons_succ, List.getElem_toArray, List.getElem_cons_succ, List.getElem_cons_zero]
  refine wpAnyH_take (i := 12) (v := ?v12) (rfl) (by kernel_rfl) (by kernel_rfl) (by kernel_rfl) (fun _ _ _ h => h) ?y12 (by assumption) ?r12
  case y12 => first | (refine Or.inr ⟨?_, ?_⟩; rfl; rfl) | (refine Or.inl ⟨?_, ?_⟩; rfl; intro w hSw; (try dsimp only at hSw); go_simp; try with_reducible rfl)
  simp only [Act.put, List.setIfInBounds_toArray, List.set_cons_zero, List.set_cons_succ, List.getElem_toArray, List.getElem_cons_succ, List.getElem_cons_zero]
  refine wpAnyH_take (i := 13) (v := ?v13) (rfl) (by kernel_rfl) (by kernel_rfl) (by kernel_rfl) (fun _ _ _ h => h) ?y13 (by assumption) ?r13
  case y13 => first | (refine Or.inr ⟨?_, ?_⟩; rfl; rfl) | (refine Or.inl ⟨?_, ?_⟩; rfl; intro w hSw; (try dsimp only at hSw); go_simp; try with_reducible rfl)
  simp only [Act.put, List.setIfInBounds_toArray, List.set_cons_zero, List.set_cons_succ, List.getElem_toArray, List.getElem_cons_succ, List.getElem_cons_zero]
  refine wpAnyH_take (i := 14) (v := ?v14) (rfl) (by kernel_rfl) (by kernel_rfl) (by kernel_rfl) (fun _ _ _ h => h) ?y14 (by assumption) ?r14
  case y14 => first | (refine Or.inr ⟨?_, ?_⟩; rfl; rfl) | (refine Or.inl ⟨?_, ?_⟩; rfl; intro w hSw; (try dsimp only at hSw); go_simp; try with_reducible rfl)
  simp only [Act.put, List.setIfInBounds_toArray, List.set_cons_zero, List.set_cons_succ, List.getElem_toArray, List.getElem_cons_succ, List.getElem_cons_zero]
  refine wpAnyH_take (i := 15) (v := ?v15) (rfl) (by kernel_rfl) (by kernel_rfl) (by kernel_rfl) (fun _ _ _ h => h) ?y15 (by assumption) ?r15
  case y15 => first | (refine Or.inr ⟨?_, ?_⟩; rfl; rfl) | (refine Or.inl ⟨?_, ?_⟩; rfl; intro w hSw; (try dsimp only at hSw); go_simp; try with_reducible rfl)
  simp only [Act.put, List.setIfInBounds_toArray, List.set_cons_zero, List.set_cons_succ, List.getElem_toArray, List.getElem_cons_succ, List.getElem_cons_zero]
  refine wpAnyH_take (i := 16) (v := ?v16) (rfl) (by kernel_rfl) (by kernel_rfl) (by kernel_rfl) (fun _ _ _ h => h) ?y16 (by assumption) ?r16
  case y16 => first | (refine Or.inr ⟨?_, ?_⟩; rfl; rfl) | (refine Or.inl ⟨?_, ?_⟩; rfl; intro w hSw; (try dsimp only at hSw); go_simp; try with_reducible rfl)
  simp only [Act.put, List.setIfInBounds_toArray, List.set_cons_zero, List.set_cons_succ, List.getElem_toArray, List.getElem_cons_succ, List.getElem_cons_zero]
  refine wpAnyH_ready (rs := [17]) (by kernel_rfl) (by simp) ?_
  refine AllReadyH.cons rfl (fun K hK => ?_) AllReadyH.nil
  go_simp
  try clear hHeld
  refine hK.out _ _ (rheld (H0.out.below (below_alloc B0.out.drew _)) HL.out Q0.out Q1.out Q2.out Q3.out) (fun hHeld => ?_)
  clear hK K
  try simp only [Act.put, List.setIfInBounds_toArray, List.set_cons_zero, List.set_cons_succ, List.getElem_toArray, List.getElem_cons_succ, List.getElem_cons_zero]
  have P2 := Aside0.mk (Pair.newer w x0 x1 (x2 * 256 + x3) 0 0 0)
  refine wpAnyH_ready (rs := [18]) (by kernel_rfl) (by simp) ?_
  refine AllReadyH.cons rfl (fun K hK => ?_) AllReadyH.nil
  go_simp
  try clear hHeld
  refine hK.out _ _ (rheld (P2.out.reads H0.out) HL.out Q0.out Q1.out Q2.out Q3.out) (fun hHeld => ?_)
  clear hK K
  try simp only [Act.put, List.setIfInBounds_toArray, List.set_cons_zero, List.set_cons_succ, List.getElem_toArray, List.getElem_cons_succ, List.getElem_cons_zero]
  refine wpAnyH_done (by kernel_rfl) ?_ _
  clear hHeld
  generalize ((w.alloc (.cells #[.int .u8 0, .int .u8 0, .int .u16 0, .int .u8 0, .int .u8 0, .int .u32 0] 25)).alloc (.cells #[.int .u8 x0, .int .u8 x1, .int .u16 (x2 * 256 + x3), .int .u8 0, .int .u8 0, .int .u32 0] 25)).drew = w3 at P2 ⊢
  obtain ⟨d0, d1, d2, d3, d4, d5⟩ := P2.out.2.1.cells
  obtain ⟨k0, k1, k2, k3, k4⟩ := held10a P2.out H0.out HL2.out Q4.out Q5.out
  obtain ⟨m0, m1, m2, m3, m4⟩ := kept10a P2.out H0.out HL2.out Q4.out Q5.out x4
  go_wp2_with fail
  clear k0 k1 k2 k3 k4 m0 m1 m2 m3 m4 d0 d1 d2 d3 d4 d5
  have P3 := Aside0.mk (P2.out.two x4 x5)
  generalize (w3.setCell ⟨w.heap.size + 1, 3, none⟩ (.int .u8 x4)).setCell ⟨w.heap.size + 1, 4, none⟩ (.int .u8 x5) = w4 at P3 ⊢
  have va : IntKind.u32.wrap x6 = x6 := by rw [w32]; omega
  have vb : IntKind.u32.wrap (x6 * 16777216) = x6 * 16777216 := by rw [w32]; omega
  have vc : IntKind.u32.wrap x7 = x7 := by rw [w32]; omega
  have vd : IntKind.u32.wrap (x7 * 65536) = x7 * 65536 := by rw [w32]; omega
  have ve : IntKind.u32.wrap (x6 * 16777216 + x7 * 65536) = x6 * 16777216 + x7 * 65536 := by rw [w32]; omega
  have vf : IntKind.u32.wrap x8 = x8 := by rw [w32]; omega
  have vg : IntKind.u32.wrap (x8 * 256) = x8 * 256 := by rw [w32]; omega
  have vh : IntKind.u32.wrap (x6 * 16777216 + x7 * 65536 + x8 * 256) = x6 * 16777216 + x7 * 65536 + x8 * 256 := by rw [w32]; omega
  have vi : IntKind.u32.wrap x9 = x9 := by rw [w32]; omega
  have vj : IntKind.u32.wrap (x6 * 16777216 + x7 * 65536 + x8 * 256 + x9) = x6 * 16777216 + x7 * 65536 + x8 * 256 + x9 := by rw [w32]; omega
  have f5 := P3.out.2.1.free 5
  obtain ⟨-, -, -, -, -, k5⟩ := P3.out.2.1.cells
  refine wp_region_held_drew (S := fun W => W.cell? ⟨ad.block, ad.off + 6, none⟩ = some (.int .u8 x6) ∧ W.cell? ⟨ad.block, ad.off + 7, none⟩ = some (.int .u8 x7) ∧ W.cell? ⟨ad.block, ad.off + 8, none⟩ = some (.int .u8 x8) ∧ W.cell? ⟨ad.block, ad.off + 9, none⟩ = some (.int .u8 x9)) (by kernel_rfl) ?_ (fun hHeld => ?_)
  · exact rheld4 (P3.out.drew.reads H0.out) HL2.out Q6.out Q7.out Q8.out Q9.out
  refine wpAnyH_take (i := 0) (v := ?vb0) (rfl) (by kernel_rfl) (by kernel_rfl) (by kernel_rfl) (fun _ _ _ h => h) ?yb0 (by assumption) ?rb0
  case yb0 => first | (refine Or.inr ⟨?_, ?_⟩; rfl; rfl) | (refine Or.inl ⟨?_, ?_⟩; rfl; intro w hSw; (try dsimp only at hSw); go_simp; try with_reducible rfl)
  simp only [Act.put, List.setIfInBounds_toArray, List.set_cons_zero, List.set_cons_succ, List.getElem_toArray, List.getElem_cons_succ, List.getElem_cons_zero]
  refine wpAnyH_take (i := 1) (v := ?vb1) (rfl) (by kernel_rfl) (by kernel_rfl) (by kernel_rfl) (fun _ _ _ h => h) ?yb1 (by assumption) ?rb1
  case yb1 => first | (refine Or.inr ⟨?_, ?_⟩; rfl; rfl) | (refine Or.inl ⟨?_, ?_⟩; rfl; intro w hSw; (try dsimp only at hSw); go_simp; try with_reducible rfl)
  simp only [Act.put, List.setIfInBounds_toArray, List.set_cons_zero, List.set_cons_succ, List.getElem_toArray, List.getElem_cons_succ, List.getElem_cons_zero]
  refine wpAnyH_take (i := 2) (v := ?vb2) (rfl) (by kernel_rfl) (by kernel_rfl) (by kernel_rfl) (fun _ _ _ h => h) ?yb2 (by assumption) ?rb2
  case yb2 => first | (refine Or.inr ⟨?_, ?_⟩; rfl; rfl) | (refine Or.inl ⟨?_, ?_⟩; rfl; intro w hSw; (try dsimp only at hSw); go_simp; try with_reducible rfl)
  simp only [Act.put, List.setIfInBounds_toArray, List.set_cons_zero, List.set_cons_succ, List.getElem_toArray, List.getElem_cons_succ, List.getElem_cons_zero]
  refine wpAnyH_take (i := 3) (v := ?vb3) (rfl) (by kernel_rfl) (by kernel_rfl) (by kernel_rfl) (fun _ _ _ h => h) ?yb3 (by assumption) ?rb3
  case yb3 => first | (refine Or.inr ⟨?_, ?_⟩; rfl; rfl) | (refine Or.inl ⟨?_, ?_⟩; rfl; intro w hSw; (try dsimp only at hSw); go_simp; try with_reducible rfl)
  simp only [Act.put, List.setIfInBounds_toArray, List.set_cons_zero, List.set_cons_succ, List.getElem_toArray, List.getElem_cons_succ, List.getElem_cons_zero]
  refine wpAnyH_take (i := 4) (v := ?vb4) (rfl) (by kernel_rfl) (by kernel_rfl) (by kernel_rfl) (fun _ _ _ h => h) ?yb4 (by assumption) ?rb4
  case yb4 => first | (refine Or.inr ⟨?_, ?_⟩; rfl; rfl) | (refine Or.inl ⟨?_, ?_⟩; rfl; intro w hSw; (try dsimp only at hSw); go_simp; try with_reducible rfl)
  simp only [Act.put, List.setIfInBounds_toArray, List.set_cons_zero, List.set_cons_succ, List.getElem_toArray, List.getElem_cons_succ, List.getElem_cons_zero]
  refine wpAnyH_take (i := 5) (v := ?vb5) (rfl) (by kernel_rfl) (by kernel_rfl) (by kernel_rfl) (fun _ _ _ h => h) ?yb5 (by assumption) ?rb5
  case yb5 => first | (refine Or.inr ⟨?_, ?_⟩; rfl; rfl) | (refine Or.inl ⟨?_, ?_⟩; rfl; intro w hSw; (try dsimp only at hSw); go_simp; try with_reducible rfl)
  simp only [Act.put, List.setIfInBounds_toArray, List.set_cons_zero, List.set_cons_succ, List.getElem_toArray, List.getElem_cons_succ, List.getElem_cons_zero]
  refine wpAnyH_take (i := 6) (v := ?vb6) (rfl) (by kernel_rfl) (by kernel_rfl) (by kernel_rfl) (fun _ _ _ h => h) ?yb6 (by assumption) ?rb6
  case yb6 => first | (refine Or.inr ⟨?_, ?_⟩; rfl; rfl) | (refine Or.inl ⟨?_, ?_⟩; rfl; intro w hSw; (try dsimp only at hSw); go_simp; try with_reducible rfl)
  simp only [Act.put, List.setIfInBounds_toArray, List.set_cons_zero, List.set_cons_succ, List.getElem_toArray, List.getElem_cons_succ, List.getElem_cons_zero]
  refine wpAnyH_take (i := 7) (v := ?vb7) (rfl) (by kernel_rfl) (by kernel_rfl) (by kernel_rfl) (fun _ _ _ h => h) ?yb7 (by assumption) ?rb7
  case yb7 => first | (refine Or.inr ⟨?_, ?_⟩; rfl; rfl) | (refine Or.inl ⟨?_, ?_⟩; rfl; intro w hSw; (try dsimp only at hSw); go_simp; try with_reducible rfl)
  simp only [Act.put, List.setIfInBounds_toArray, List.set_cons_zero, List.set_cons_succ, List.getElem_toArray, List.getElem_cons_succ, List.getElem_cons_zero]
  refine wpAnyH_take (i := 8) (v := ?vb8) (rfl) (by kernel_rfl) (by kernel_rfl) (by kernel_rfl) (fun _ _ _ h => h) ?yb8 (by assumption) ?rb8
  case yb8 => first | (refine Or.inr ⟨?_, ?_⟩; rfl; rfl) | (refine Or.inl ⟨?_, ?_⟩; rfl; intro w hSw; (try dsimp only at hSw); go_simp; try with_reducible rfl)
  simp only [Act.put, List.setIfInBounds_toArray, List.set_cons_zero, List.set_cons_succ, List.getElem_toArray, List.getElem_cons_succ, List.getElem_cons_zero]
  refine wpAnyH_take (i := 9) (v := ?vb9) (rfl) (by kernel_rfl) (by kernel_rfl) (by kernel_rfl) (fun _ _ _ h => h) ?yb9 (by assumption) ?rb9
  case yb9 => first | (refine Or.inr ⟨?_, ?_⟩; rfl; rfl) | (refine Or.inl ⟨?_, ?_⟩; rfl; intro w hSw; (try dsimp only at hSw); go_simp; try with_reducible rfl)
  simp only [Act.put, List.setIfInBounds_toArray, List.set_cons_zero, List.set_cons_succ, List.getElem_toArray, List.getElem_cons_succ, List.getElem_cons_zero]
  refine wpAnyH_take (i := 10) (v := ?vb10) (rfl) (by kernel_rfl) (by kernel_rfl) (by kernel_rfl) (fun _ _ _ h => h) ?yb10 (by assumption) ?rb10
  case yb10 => first | (refine Or.inr ⟨?_, ?_⟩; rfl; rfl) | (refine Or.inl ⟨?_, ?_⟩; rfl; intro w hSw; (try dsimp only at hSw); go_simp; try with_reducible rfl)
  simp only [Act.put, List.setIfInBounds_toArray, List.set_cons_zero, List.set_cons_succ, List.getElem_toArray, List.getElem_cons_succ, List.getElem_cons_zero]
  refine wpAnyH_take (i := 11) (v := ?vb11) (rfl) (by kernel_rfl) (by kernel_rfl) (by kernel_rfl) (fun _ _ _ h => h) ?yb11 (by assumption) ?rb11
  case yb11 => first | (refine Or.inr ⟨?_, ?_⟩; rfl; rfl) | (refine Or.inl ⟨?_, ?_⟩; rfl; intro w hSw; (try dsimp only at hSw); go_simp; try with_reducible rfl)
  simp only [Act.put, List.setIfInBounds_toArray, List.set_cons_zero, List.set_cons_succ, List.getElem_toArray, List.getElem_cons_succ, List.getElem_cons_zero]
  refine wpAnyH_take (i := 12) (v := ?vb12) (rfl) (by kernel_rfl) (by kernel_rfl) (by kernel_rfl) (fun _ _ _ h => h) ?yb12 (by assumption) ?rb12
  case yb12 => first | (refine Or.inr ⟨?_, ?_⟩; rfl; rfl) | (refine Or.inl ⟨?_, ?_⟩; rfl; intro w hSw; (try dsimp only at hSw); go_simp; try with_reducible rfl)
  simp only [Act.put, List.setIfInBounds_toArray, List.set_cons_zero, List.set_cons_succ, List.getElem_toArray, List.getElem_cons_succ, List.getElem_cons_zero]
  refine wpAnyH_take (i := 13) (v := ?vb13) (rfl) (by kernel_rfl) (by kernel_rfl) (by kernel_rfl) (fun _ _ _ h => h) ?yb13 (by assumption) ?rb13
  case yb13 => first | (refine Or.inr ⟨?_, ?_⟩; rfl; rfl) | (refine Or.inl ⟨?_, ?_⟩; rfl; intro w hSw; (try dsimp only at hSw); go_simp; try with_reducible rfl)
  simp only [Act.put, List.setIfInBounds_toArray, List.set_cons_zero, List.set_cons_succ, List.getElem_toArray, List.getElem_cons_succ, List.getElem_cons_zero]
  refine wpAnyH_take (i := 14) (v := ?vb14) (rfl) (by kernel_rfl) (by kernel_rfl) (by kernel_rfl) (fun _ _ _ h => h) ?yb14 (by assumption) ?rb14
  case yb14 => first | (refine Or.inr ⟨?_, ?_⟩; rfl; rfl) | (refine Or.inl ⟨?_, ?_⟩; rfl; intro w hSw; (try dsimp only at hSw); go_simp; try with_reducible rfl)
  simp only [Act.put, List.setIfInBounds_toArray, List.set_cons_zero, List.set_cons_succ, List.getElem_toArray, List.getElem_cons_succ, List.getElem_cons_zero]
  refine wpAnyH_take (i := 15) (v := ?vb15) (rfl) (by kernel_rfl) (by kernel_rfl) (by kernel_rfl) (fun _ _ _ h => h) ?yb15 (by assumption) ?rb15
  case yb15 => first | (refine Or.inr ⟨?_, ?_⟩; rfl; rfl) | (refine Or.inl ⟨?_, ?_⟩; rfl; intro w hSw; (try dsimp only at hSw); go_simp; try with_reducible rfl)
  simp only [Act.put, List.setIfInBounds_toArray, List.set_cons_zero, List.set_cons_succ, List.getElem_toArray, List.getElem_cons_succ, List.getElem_cons_zero]
  refine wpAnyH_take (i := 16) (v := ?vb16) (rfl) (by kernel_rfl) (by kernel_rfl) (by kernel_rfl) (fun _ _ _ h => h) ?yb16 (by assumption) ?rb16
  case yb16 => first | (refine Or.inr ⟨?_, ?_⟩; rfl; rfl) | (refine Or.inl ⟨?_, ?_⟩; rfl; intro w hSw; (try dsimp only at hSw); go_simp; try with_reducible rfl)
  simp only [Act.put, List.setIfInBounds_toArray, List.set_cons_zero, List.set_cons_succ, List.getElem_toArray, List.getElem_cons_succ, List.getElem_cons_zero]
  refine wpAnyH_take (i := 17) (v := ?vb17) (rfl) (by kernel_rfl) (by kernel_rfl) (by kernel_rfl) (fun _ _ _ h => h) ?yb17 (by assumption) ?rb17
  case yb17 => first | (refine Or.inr ⟨?_, ?_⟩; rfl; rfl) | (refine Or.inl ⟨?_, ?_⟩; rfl; intro w hSw; (try dsimp only at hSw); go_simp; try with_reducible rfl)
  simp only [Act.put, List.setIfInBounds_toArray, List.set_cons_zero, List.set_cons_succ, List.getElem_toArray, List.getElem_cons_succ, List.getElem_cons_zero]
  refine wpAnyH_take (i := 18) (v := ?vb18) (rfl) (by kernel_rfl) (by kernel_rfl) (by kernel_rfl) (fun _ _ _ h => h) ?yb18 (by assumption) ?rb18
  case yb18 => first | (refine Or.inr ⟨?_, ?_⟩; rfl; rfl) | (refine Or.inl ⟨?_, ?_⟩; rfl; intro w hSw; (try dsimp only at hSw); go_simp; try with_reducible rfl)
  simp only [Act.put, List.setIfInBounds_toArray, List.set_cons_zero, List.set_cons_succ, List.getElem_toArray, List.getElem_cons_succ, List.getElem_cons_zero]
  refine wpAnyH_take (i := 19) (v := ?vb19) (rfl) (by kernel_rfl) (by kernel_rfl) (by kernel_rfl) (fun _ _ _ h => h) ?yb19 (by assumption) ?rb19
  case yb19 => first | (refine Or.inr ⟨?_, ?_⟩; rfl; rfl) | (refine Or.inl ⟨?_, ?_⟩; rfl; intro w hSw; (try dsimp only at hSw); go_simp; try with_reducible rfl)
  simp only [Act.put, List.setIfInBounds_toArray, List.set_cons_zero, List.set_cons_succ, List.getElem_toArray, List.getElem_cons_succ, List.getElem_cons_zero]
  refine wpAnyH_take (i := 20) (v := ?vb20) (rfl) (by kernel_rfl) (by kernel_rfl) (by kernel_rfl) (fun _ _ _ h => h) ?yb20 (by assumption) ?rb20
  case yb20 => first | (refine Or.inr ⟨?_, ?_⟩; rfl; rfl) | (refine Or.inl ⟨?_, ?_⟩; rfl; intro w hSw; (try dsimp only at hSw); go_simp; try with_reducible rfl)
  simp only [Act.put, List.setIfInBounds_toArray, List.set_cons_zero, List.set_cons_succ, List.getElem_toArray, List.getElem_cons_succ, List.getElem_cons_zero]
  refine wpAnyH_take (i := 21) (v := ?vb21) (rfl) (by kernel_rfl) (by kernel_rfl) (by kernel_rfl) (fun _ _ _ h => h) ?yb21 (by assumption) ?rb21
  case yb21 => first | (refine Or.inr ⟨?_, ?_⟩; rfl; rfl) | (refine Or.inl ⟨?_, ?_⟩; rfl; intro w hSw; (try dsimp only at hSw); go_simp; try with_reducible rfl)
  simp only [Act.put, List.setIfInBounds_toArray, List.set_cons_zero, List.set_cons_succ, List.getElem_toArray, List.getElem_cons_succ, List.getElem_cons_zero]
  refine wpAnyH_take (i := 22) (v := ?vb22) (rfl) (by kernel_rfl) (by kernel_rfl) (by kernel_rfl) (fun _ _ _ h => h) ?yb22 (by assumption) ?rb22
  case yb22 => first | (refine Or.inr ⟨?_, ?_⟩; rfl; rfl) | (refine Or.inl ⟨?_, ?_⟩; rfl; intro w hSw; (try dsimp only at hSw); go_simp; try with_reducible rfl)
  simp only [Act.put, List.setIfInBounds_toArray, List.set_cons_zero, List.set_cons_succ, List.getElem_toArray, List.getElem_cons_succ, List.getElem_cons_zero]
  refine wpAnyH_ready (rs := [23]) (by kernel_rfl) (by simp) ?_
  refine AllReadyH.cons rfl (fun K hK => ?_) AllReadyH.nil
  go_simp
  try clear hHeld
  refine hK.out _ _ (rheld4 ((P3.out.one (x6 * 16777216 + x7 * 65536 + x8 * 256 + x9)).drew.reads H0.out) HL2.out Q6.out Q7.out Q8.out Q9.out) (fun hHeld => ?_)
  clear hK K
  try simp only [Act.put, List.setIfInBounds_toArray, List.set_cons_zero, List.set_cons_succ, List.getElem_toArray, List.getElem_cons_succ, List.getElem_cons_zero]
  refine wpAnyH_done (by kernel_rfl) ?_ _
  clear hHeld
  have P4 := Aside0.mk (P3.out.one (x6 * 16777216 + x7 * 65536 + x8 * 256 + x9)).drew
  generalize (w4.setCell ⟨w.heap.size + 1, 5, none⟩ (.int .u32 (x6 * 16777216 + x7 * 65536 + x8 * 256 + x9))).drew = w5 at P4 ⊢
  clear f5 k5 va vb vc vd ve vf vg vh vi vj
  obtain ⟨d0, d1, d2, d3, d4, d5⟩ := P4.out.2.1.cells
  clear wa wb wc wd
  go_wp2_with fail
  clear d0 d1 d2 d3 d4 d5
  refine (renc_fr (Fr.mk (x0) (x1) (x2 * 256 + x3) (x4) (x5) (x6 * 16777216 + x7 * 65536 + x8 * 256 + x9)) _ HW.out HS.out).mono ?_
  rintro e w6 ⟨base, v, rfl, R⟩
  obtain ⟨A', c', rfl, hr', -, -⟩ := R.slice
  have P6 := Aside0.mk (P4.out.below R.bel)
  have C1 : (convert 27 9 (.slice A' (Fr.mk (x0) (x1) (x2 * 256 + x3) (x4) (x5) (x6 * 16777216 + x7 * 65536 + x8 * 256 + x9)).bytes.length c')).run Try.prog w6 = .ok (.string (strOfNums (Fr.mk (x0) (x1) (x2 * 256 + x3) (x4) (x5) (x6 * 16777216 + x7 * 65536 + x8 * 256 + x9)).bytes)) w6 := string_of_reads Try.underlying27 Try.underlying5 Try.underlying9 (h := hr')
  have C2 : (convert 27 9 (.slice (some ad) l.length c)).run Try.prog w6 = .ok (.string (strOfNums l)) w6 := string_of_reads Try.underlying27 Try.underlying5 Try.underlying9 (h := P6.out.reads H0.out)
  clear R hr'
  have N1 := HBN.out
  have N2 := HBM.out
  obtain ⟨c0, c1, c2, c3, c4, c5⟩ := P6.out.1.cells
  obtain ⟨d0, d1, d2, d3, d4, d5⟩ := P6.out.2.1.cells
  have f0 := P6.out.1.free 0
  have f1 := P6.out.1.free 1
  have f2 := P6.out.1.free 2
  have f3 := P6.out.1.free 3
  have f4 := P6.out.1.free 4
  have f5 := P6.out.1.free 5
  go_wp2_with fail
  refine bodyPost_ret (ret_cell_tmp rfl _ _ w.heap.size 25 _ (0, 0) _ (by rfl) (Box.set6 P6.out.1 _ _ _ _ _ _) Try.underlying25 rfl (by kernel_rfl)) rfl ?_
  exact ⟨rfl, below6 P6.out.2.2 (Nat.le_refl _) _ _ _ _ _ _⟩
set_option maxHeartbeats 4000000 in
set_option maxRecDepth 100000 in
theorem rdec_long_yes (ad : Addr) (c : Nat) (l : List Int) (w : World) (hr : ReadsInt w .u8 (some ad) l.length l) (hc : l.length ≤ c) (hl : 6 ≤ l.length) (x0 x1 x2 x3 x4 x5 x6 x7 x8 x9 : Int) (g0 : 0 ≤ x0 ∧ x0 ≤ 255) (q0 : l.getD 0 0 = x0) (g1 : 0 ≤ x1 ∧ x1 ≤ 255) (q1 : l.getD 1 0 = x1) (g2 : 0 ≤ x2 ∧ x2 ≤ 255) (q2 : l.getD 2 0 = x2) (g3 : 0 ≤ x3 ∧ x3 ≤ 255) (q3 : l.getD 3 0 = x3) (g4 : 0 ≤ x4 ∧ x4 ≤ 255) (q4 : l.getD 4 0 = x4) (g5 : 0 ≤ x5 ∧ x5 ≤ 255) (q5 : l.getD 5 0 = x5) (g6 : 0 ≤ x6 ∧ x6 ≤ 255) (q6 : l.getD 6 0 = x6) (g7 : 0 ≤ x7 ∧ x7 ≤ 255) (q7 : l.getD 7 0 = x7) (g8 : 0 ≤ x8 ∧ x8 ≤ 255) (q8 : l.getD 8 0 = x8) (g9 : 0 ≤ x9 ∧ x9 ≤ 255) (q9 : l.getD 9 0 = x9) (hk : x0 = 1) (hl2 : 12 ≤ l.length) (hw : (Fr.mk (x0) (x1) (x2 * 256 + x3) (x4) (x5) (x6 * 16777216 + x7 * 65536 + x8 * 256 + x9)).wf) (hs : (Fr.mk (x0) (x1) (x2 * 256 + x3) (x4) (x5) (x6 * 16777216 + x7 * 65536 + x8 * 256 + x9)).sound = true) (hby : (Fr.mk (x0) (x1) (x2 * 256 + x3) (x4) (x5) (x6 * 16777216 + x7 * 65536 + x8 * 256 + x9)).bytes = l) :
    Calls Try.prog 20 #[.slice (some ad) l.length c] w (RBack w (Fr.mk (x0) (x1) (x2 * 256 + x3) (x4) (x5) (x6 * 16777216 + x7 * 65536 + x8 * 256 + x9)) 0) := by
  have H0 := Aside0.mk hr
  have HL := Aside0.mk hl
  have HW := Aside0.mk hw
  have HS := Aside0.mk hs
  have Q0 := Aside0.mk q0
  have Q1 := Aside0.mk q1
  have Q2 := Aside0.mk q2
  have Q3 := Aside0.mk q3
  have Q4 := Aside0.mk q4
  have Q5 := Aside0.mk q5
  have Q6 := Aside0.mk q6
  have Q7 := Aside0.mk q7
  have Q8 := Aside0.mk q8
  have Q9 := Aside0.mk q9
  have HBY := Aside0.mk hby
  clear hby
  have e0 : decide ((l.length : Int) < 6) = false := decide_eq_false (by omega)
  have eA : (x0 == 1) = true := beq_iff_eq.mpr hk
  have eB : decide ((l.length : Int) ≥ 12) = true := decide_eq_true (by omega)
  have HL2 := Aside0.mk hl2
  have i0 : (0 : Int) < (l.length : Int) := by omega
  have n0 : 0 < l.length := by omega
  have n1 : 1 < l.length := by omega
  have n2 : 2 < l.length := by omega
  have n3 : 3 < l.length := by omega
  have i1 : (1 : Int) < (l.length : Int) := by omega
  have i2 : (2 : Int) < (l.length : Int) := by omega
  have i3 : (3 : Int) < (l.length : Int) := by omega
  have i4 : (4 : Int) < (l.length : Int) := by omega
  have n4 : 4 < l.length := by omega
  have i5 : (5 : Int) < (l.length : Int) := by omega
  have n5 : 5 < l.length := by omega
  have i6 : (6 : Int) < (l.length : Int) := by omega
  have n6 : 6 < l.length := by omega
  have i7 : (7 : Int) < (l.length : Int) := by omega
  have n7 : 7 < l.length := by omega
  have i8 : (8 : Int) < (l.length : Int) := by omega
  have n8 : 8 < l.length := by omega
  have i9 : (9 : Int) < (l.length : Int) := by omega
  have n9 : 9 < l.length := by omega
  have wa : IntKind.u16.wrap x2 = x2 := by rw [w16]; omega
  have wb : IntKind.u16.wrap (x2 * 256) = x2 * 256 := by rw [w16]; omega
  have wc : IntKind.u16.wrap x3 = x3 := by rw [w16]; omega
  have wd : IntKind.u16.wrap (x2 * 256 + x3) = x2 * 256 + x3 := by rw [w16]; omega
  clear hr hl hw hs hc hk hl2 q0 q1 q2 q3 q4 q5 q6 q7 q8 q9
  go_enter Try.func20, Try.ntmps20
  go_wp2_with fail
  have B0 := Aside0.mk (below_alloc (Below.refl w.heap.size w) (.cells #[.int .u8 0, .int .u8 0, .int .u16 0, .int .u8 0, .int .u8 0, .int .u32 0] 25))
  refine wp_region_held_drew (S := fun W => W.cell? ad = some (.int .u8 x0) ∧ W.cell? ⟨ad.block, ad.off + 1, none⟩ = some (.int .u8 x1) ∧ W.cell? ⟨ad.block, ad.off + 2, none⟩ = some (.int .u8 x2) ∧ W.cell? ⟨ad.block, ad.off + 3, none⟩ = some (.int .u8 x3)) (by kernel_rfl) ?_ (fun hHeld => ?_)
  · exact rheld (H0.out.below B0.out.drew) HL.out Q0.out Q1.out Q2.out Q3.out
  refine wpAnyH_take (i := 0) (v := ?v0) (rfl) (by kernel_rfl) (by kernel_rfl) (by kernel_rfl) (fun _ _ _ h => h) ?y0 (by assumption) ?r0
  case y0 => first | (refine Or.inr ⟨?_, ?_⟩; rfl; rfl) | (refine Or.inl ⟨?_, ?_⟩; rfl; intro w hSw; (try dsimp only at hSw); go_simp; try with_reducible rfl)
  simp only [Act.put, List.setIfInBounds_toArray, List.set_cons_zero, List.set_cons_succ, List.getElem_toArray, List.getElem_cons_succ, List.getElem_cons_zero]
  refine wpAnyH_take (i := 1) (v := ?v1) (rfl) (by kernel_rfl) (by kernel_rfl) (by kernel_rfl) (fun _ _ _ h => h) ?y1 (by assumption) ?r1
  case y1 => first | (refine Or.inr ⟨?_, ?_⟩; rfl; rfl) | (refine Or.inl ⟨?_, ?_⟩; rfl; intro w hSw; (try dsimp only at hSw); go_simp; try with_reducible rfl)
  simp only [Act.put, List.setIfInBounds_toArray, List.set_cons_zero, List.set_cons_succ, List.getElem_toArray, List.getElem_cons_succ, List.getElem_cons_zero]
  refine wpAnyH_take (i := 2) (v := ?v2) (rfl) (by kernel_rfl) (by kernel_rfl) (by kernel_rfl) (fun _ _ _ h => h) ?y2 (by assumption) ?r2
  case y2 => first | (refine Or.inr ⟨?_, ?_⟩; rfl; rfl) | (refine Or.inl ⟨?_, ?_⟩; rfl; intro w hSw; (try dsimp only at hSw); go_simp; try with_reducible rfl)
  simp only [Act.put, List.setIfInBounds_toArray, List.set_cons_zero, List.set_cons_succ, List.getElem_toArray, List.getElem_cons_succ, List.getElem_cons_zero]
  refine wpAnyH_take (i := 3) (v := ?v3) (rfl) (by kernel_rfl) (by kernel_rfl) (by kernel_rfl) (fun _ _ _ h => h) ?y3 (by assumption) ?r3
  case y3 => first | (refine Or.inr ⟨?_, ?_⟩; rfl; rfl) | (refine Or.inl ⟨?_, ?_⟩; rfl; intro w hSw; (try dsimp only at hSw); go_simp; try with_reducible rfl)
  simp only [Act.put, List.setIfInBounds_toArray, List.set_cons_zero, List.set_cons_succ, List.getElem_toArray, List.getElem_cons_succ, List.getElem_cons_zero]
  refine wpAnyH_take (i := 4) (v := ?v4) (rfl) (by kernel_rfl) (by kernel_rfl) (by kernel_rfl) (fun _ _ _ h => h) ?y4 (by assumption) ?r4
  case y4 => first | (refine Or.inr ⟨?_, ?_⟩; rfl; rfl) | (refine Or.inl ⟨?_, ?_⟩; rfl; intro w hSw; (try dsimp only at hSw); go_simp; try with_reducible rfl)
  simp only [Act.put, List.setIfInBounds_toArray, List.set_cons_zero, List.set_cons_succ, List.getElem_toArray, List.getElem_cons_succ, List.getElem_cons_zero]
  refine wpAnyH_take (i := 5) (v := ?v5) (rfl) (by kernel_rfl) (by kernel_rfl) (by kernel_rfl) (fun _ _ _ h => h) ?y5 (by assumption) ?r5
  case y5 => first | (refine Or.inr ⟨?_, ?_⟩; rfl; rfl) | (refine Or.inl ⟨?_, ?_⟩; rfl; intro w hSw; (try dsimp only at hSw); go_simp; try with_reducible rfl)
  simp only [Act.put, List.setIfInBounds_toArray, List.set_cons_zero, List.set_cons_succ, List.getElem_toArray, List.getElem_cons_succ, List.getElem_cons_zero]
  refine wpAnyH_take (i := 6) (v := ?v6) (rfl) (by kernel_rfl) (by kernel_rfl) (by kernel_rfl) (fun _ _ _ h => h) ?y6 (by assumption) ?r6
  case y6 => first | (refine Or.inr ⟨?_, ?_⟩; rfl; rfl) | (refine Or.inl ⟨?_, ?_⟩; rfl; intro w hSw; (try dsimp only at hSw); go_simp; try with_reducible rfl)
  simp only [Act.put, List.setIfInBounds_toArray, List.set_cons_zero, List.set_cons_succ, List.getElem_toArray, List.getElem_cons_succ, List.getElem_cons_zero]
  refine wpAnyH_take (i := 7) (v := ?v7) (rfl) (by kernel_rfl) (by kernel_rfl) (by kernel_rfl) (fun _ _ _ h => h) ?y7 (by assumption) ?r7
  case y7 => first | (refine Or.inr ⟨?_, ?_⟩; rfl; rfl) | (refine Or.inl ⟨?_, ?_⟩; rfl; intro w hSw; (try dsimp only at hSw); go_simp; try with_reducible rfl)
  simp only [Act.put, List.setIfInBounds_toArray, List.set_cons_zero, List.set_cons_succ, List.getElem_toArray, List.getElem_cons_succ, List.getElem_cons_zero]
  refine wpAnyH_take (i := 8) (v := ?v8) (rfl) (by kernel_rfl) (by kernel_rfl) (by kernel_rfl) (fun _ _ _ h => h) ?y8 (by assumption) ?r8
  case y8 => first | (refine Or.inr ⟨?_, ?_⟩; rfl; rfl) | (refine Or.inl ⟨?_, ?_⟩; rfl; intro w hSw; (try dsimp only at hSw); go_simp; try with_reducible rfl)
  simp only [Act.put, List.setIfInBounds_toArray, List.set_cons_zero, List.set_cons_succ, List.getElem_toArray, List.getElem_cons_succ, List.getElem_cons_zero]
  refine wpAnyH_take (i := 9) (v := ?v9) (rfl) (by kernel_rfl) (by kernel_rfl) (by kernel_rfl) (fun _ _ _ h => h) ?y9 (by assumption) ?r9
  case y9 => first | (refine Or.inr ⟨?_, ?_⟩; rfl; rfl) | (refine Or.inl ⟨?_, ?_⟩; rfl; intro w hSw; (try dsimp only at hSw); go_simp; try with_reducible rfl)
  simp only [Act.put, List.setIfInBounds_toArray, List.set_cons_zero, List.set_cons_succ, List.getElem_toArray, List.getElem_cons_succ, List.getElem_cons_zero]
  refine wpAnyH_take (i := 10) (v := ?v10) (rfl) (by kernel_rfl) (by kernel_rfl) (by kernel_rfl) (fun _ _ _ h => h) ?y10 (by assumption) ?r10
  case y10 => first | (refine Or.inr ⟨?_, ?_⟩; rfl; rfl) | (refine Or.inl ⟨?_, ?_⟩; rfl; intro w hSw; (try dsimp only at hSw); go_simp; try with_reducible rfl)
  simp only [Act.put, List.setIfInBounds_toArray, List.set_cons_zero, List.set_cons_succ, List.getElem_toArray, List.getElem_cons_succ, List.getElem_cons_zero]
  refine wpAnyH_take (i := 11) (v := ?v11) (rfl) (by kernel_rfl) (by kernel_rfl) (by kernel_rfl) (fun _ _ _ h => h) ?y11 (by assumption) ?r11
  case y11 => first | (refine Or.inr ⟨?_, ?_⟩; rfl; rfl) | (refine Or.inl ⟨?_, ?_⟩; rfl; intro w hSw; (try dsimp only at hSw); go_simp; try with_reducible rfl)
  simp only [Act.put, List.setIfInBounds_toArray, List.set_cons_zero, List.set_cons_succ, List.getElem_toArray, List.getElem_cons_succ, List.getElem_cons_zero]
  refine wpAnyH_take (i := 12) (v := ?v12) (rfl) (by kernel_rfl) (by kernel_rfl) (by kernel_rfl) (fun _ _ _ h => h) ?y12 (by assumption) ?r12
  case y12 => first | (refine Or.inr ⟨?_, ?_⟩; rfl; rfl) | (refine Or.inl ⟨?_, ?_⟩; rfl; intro w hSw; (try dsimp only at hSw); go_simp; try with_reducible rfl)
  simp only [Act.put, List.setIfInBounds_toArray, List.set_cons_zero, List.set_cons_succ, List.getElem_toArray, List.getElem_cons_succ, List.getElem_cons_zero]
  refine wpAnyH_take (i := 13) (v := ?v13) (rfl) (by kernel_rfl) (by kernel_rfl) (by kernel_rfl) (fun _ _ _ h => h) ?y13 (by assumption) ?r13
  case y13 => first | (refine Or.inr ⟨?_, ?_⟩; rfl; rfl) | (refine Or.inl ⟨?_, ?_⟩; rfl; intro w hSw; (try dsimp only at hSw); go_simp; try with_reducible rfl)
  simp only [Act.put, List.setIfInBounds_toArray, List.set_cons_zero, List.set_cons_succ, List.getElem_toArray, List.getElem_cons_succ, List.getElem_cons_zero]
  refine wpAnyH_take (i := 14) (v := ?v14) (rfl) (by kernel_rfl) (by kernel_rfl) (by kernel_rfl) (fun _ _ _ h => h) ?y14 (by assumption) ?r14
  case y14 => first | (refine Or.inr ⟨?_, ?_⟩; rfl; rfl) | (refine Or.inl ⟨?_, ?_⟩; rfl; intro w hSw; (try dsimp only at hSw); go_simp; try with_reducible rfl)
  simp only [Act.put, List.setIfInBounds_toArray, List.set_cons_zero, List.set_cons_succ, List.getElem_toArray, List.getElem_cons_succ, List.getElem_cons_zero]
  refine wpAnyH_take (i := 15) (v := ?v15) (rfl) (by kernel_rfl) (by kernel_rfl) (by kernel_rfl) (fun _ _ _ h => h) ?y15 (by assumption) ?r15
  case y15 => first | (refine Or.inr ⟨?_, ?_⟩; rfl; rfl) | (refine Or.inl ⟨?_, ?_⟩; rfl; intro w hSw; (try dsimp only at hSw); go_simp; try with_reducible rfl)
  simp only [Act.put, List.setIfInBounds_toArray, List.set_cons_zero, List.set_cons_succ, List.getElem_toArray, List.getElem_cons_succ, List.getElem_cons_zero]
  refine wpAnyH_take (i := 16) (v := ?v16) (rfl) (by kernel_rfl) (by kernel_rfl) (by kernel_rfl) (fun _ _ _ h => h) ?y16 (by assumption) ?r16
  case y16 => first | (refine Or.inr ⟨?_, ?_⟩; rfl; rfl) | (refine Or.inl ⟨?_, ?_⟩; rfl; intro w hSw; (try dsimp only at hSw); go_simp; try with_reducible rfl)
  simp only [Act.put, List.setIfInBounds_toArray, List.set_cons_zero, List.set_cons_succ, List.getElem_toArray, List.getElem_cons_succ, List.getElem_cons_zero]
  refine wpAnyH_ready (rs := [17]) (by kernel_rfl) (by simp) ?_
  refine AllReadyH.cons rfl (fun K hK => ?_) AllReadyH.nil
  go_simp
  try clear hHeld
  refine hK.out _ _ (rheld (H0.out.below (below_alloc B0.out.drew _)) HL.out Q0.out Q1.out Q2.out Q3.out) (fun hHeld => ?_)
  clear hK K
  try simp only [Act.put, List.setIfInBounds_toArray, List.set_cons_zero, List.set_cons_succ, List.getElem_toArray, List.getElem_cons_succ, List.getElem_cons_zero]
  have P2 := Aside0.mk (Pair.newer w x0 x1 (x2 * 256 + x3) 0 0 0)
  refine wpAnyH_ready (rs := [18]) (by kernel_rfl) (by simp) ?_
  refine AllReadyH.cons rfl (fun K hK => ?_) AllReadyH.nil
  go_simp
  try clear hHeld
  refine hK.out _ _ (rheld (P2.out.reads H0.out) HL.out Q0.out Q1.out Q2.out Q3.out) (fun hHeld => ?_)
  clear hK K
  try simp only [Act.put, List.setIfInBounds_toArray, List.set_cons_zero, List.set_cons_succ, List.getElem_toArray, List.getElem_cons_succ, List.getElem_cons_zero]
  refine wpAnyH_done (by kernel_rfl) ?_ _
  clear hHeld
  generalize ((w.alloc (.cells #[.int .u8 0, .int .u8 0, .int .u16 0, .int .u8 0, .int .u8 0, .int .u32 0] 25)).alloc (.cells #[.int .u8 x0, .int .u8 x1, .int .u16 (x2 * 256 + x3), .int .u8 0, .int .u8 0, .int .u32 0] 25)).drew = w3 at P2 ⊢
  obtain ⟨d0, d1, d2, d3, d4, d5⟩ := P2.out.2.1.cells
  obtain ⟨k0, k1, k2, k3, k4⟩ := held10a P2.out H0.out HL2.out Q4.out Q5.out
  obtain ⟨m0, m1, m2, m3, m4⟩ := kept10a P2.out H0.out HL2.out Q4.out Q5.out x4
  go_wp2_with fail
  clear k0 k1 k2 k3 k4 m0 m1 m2 m3 m4 d0 d1 d2 d3 d4 d5
  have P3 := Aside0.mk (P2.out.two x4 x5)
  generalize (w3.setCell ⟨w.heap.size + 1, 3, none⟩ (.int .u8 x4)).setCell ⟨w.heap.size + 1, 4, none⟩ (.int .u8 x5) = w4 at P3 ⊢
  have va : IntKind.u32.wrap x6 = x6 := by rw [w32]; omega
  have vb : IntKind.u32.wrap (x6 * 16777216) = x6 * 16777216 := by rw [w32]; omega
  have vc : IntKind.u32.wrap x7 = x7 := by rw [w32]; omega
  have vd : IntKind.u32.wrap (x7 * 65536) = x7 * 65536 := by rw [w32]; omega
  have ve : IntKind.u32.wrap (x6 * 16777216 + x7 * 65536) = x6 * 16777216 + x7 * 65536 := by rw [w32]; omega
  have vf : IntKind.u32.wrap x8 = x8 := by rw [w32]; omega
  have vg : IntKind.u32.wrap (x8 * 256) = x8 * 256 := by rw [w32]; omega
  have vh : IntKind.u32.wrap (x6 * 16777216 + x7 * 65536 + x8 * 256) = x6 * 16777216 + x7 * 65536 + x8 * 256 := by rw [w32]; omega
  have vi : IntKind.u32.wrap x9 = x9 := by rw [w32]; omega
  have vj : IntKind.u32.wrap (x6 * 16777216 + x7 * 65536 + x8 * 256 + x9) = x6 * 16777216 + x7 * 65536 + x8 * 256 + x9 := by rw [w32]; omega
  have f5 := P3.out.2.1.free 5
  obtain ⟨-, -, -, -, -, k5⟩ := P3.out.2.1.cells
  refine wp_region_held_drew (S := fun W => W.cell? ⟨ad.block, ad.off + 6, none⟩ = some (.int .u8 x6) ∧ W.cell? ⟨ad.block, ad.off + 7, none⟩ = some (.int .u8 x7) ∧ W.cell? ⟨ad.block, ad.off + 8, none⟩ = some (.int .u8 x8) ∧ W.cell? ⟨ad.block, ad.off + 9, none⟩ = some (.int .u8 x9)) (by kernel_rfl) ?_ (fun hHeld => ?_)
  · exact rheld4 (P3.out.drew.reads H0.out) HL2.out Q6.out Q7.out Q8.out Q9.out
  refine wpAnyH_take (i := 0) (v := ?vb0) (rfl) (by kernel_rfl) (by kernel_rfl) (by kernel_rfl) (fun _ _ _ h => h) ?yb0 (by assumption) ?rb0
  case yb0 => first | (refine Or.inr ⟨?_, ?_⟩; rfl; rfl) | (refine Or.inl ⟨?_, ?_⟩; rfl; intro w hSw; (try dsimp only at hSw); go_simp; try with_reducible rfl)
  simp only [Act.put, List.setIfInBounds_toArray, List.set_cons_zero, List.set_cons_succ, List.getElem_toArray, List.getElem_cons_succ, List.getElem_cons_zero]
  refine wpAnyH_take (i := 1) (v := ?vb1) (rfl) (by kernel_rfl) (by kernel_rfl) (by kernel_rfl) (fun _ _ _ h => h) ?yb1 (by assumption) ?rb1
  case yb1 => first | (refine Or.inr ⟨?_, ?_⟩; rfl; rfl) | (refine Or.inl ⟨?_, ?_⟩; rfl; intro w hSw; (try dsimp only at hSw); go_simp; try with_reducible rfl)
  simp only [Act.put, List.setIfInBounds_toArray, List.set_cons_zero, List.set_cons_succ, List.getElem_toArray, List.getElem_cons_succ, List.getElem_cons_zero]
  refine wpAnyH_take (i := 2) (v := ?vb2) (rfl) (by kernel_rfl) (by kernel_rfl) (by kernel_rfl) (fun _ _ _ h => h) ?yb2 (by assumption) ?rb2
  case yb2 => first | (refine Or.inr ⟨?_, ?_⟩; rfl; rfl) | (refine Or.inl ⟨?_, ?_⟩; rfl; intro w hSw; (try dsimp only at hSw); go_simp; try with_reducible rfl)
  simp only [Act.put, List.setIfInBounds_toArray, List.set_cons_zero, List.set_cons_succ, List.getElem_toArray, List.getElem_cons_succ, List.getElem_cons_zero]
  refine wpAnyH_take (i := 3) (v := ?vb3) (rfl) (by kernel_rfl) (by kernel_rfl) (by kernel_rfl) (fun _ _ _ h => h) ?yb3 (by assumption) ?rb3
  case yb3 => first | (refine Or.inr ⟨?_, ?_⟩; rfl; rfl) | (refine Or.inl ⟨?_, ?_⟩; rfl; intro w hSw; (try dsimp only at hSw); go_simp; try with_reducible rfl)
  simp only [Act.put, List.setIfInBounds_toArray, List.set_cons_zero, List.set_cons_succ, List.getElem_toArray, List.getElem_cons_succ, List.getElem_cons_zero]
  refine wpAnyH_take (i := 4) (v := ?vb4) (rfl) (by kernel_rfl) (by kernel_rfl) (by kernel_rfl) (fun _ _ _ h => h) ?yb4 (by assumption) ?rb4
  case yb4 => first | (refine Or.inr ⟨?_, ?_⟩; rfl; rfl) | (refine Or.inl ⟨?_, ?_⟩; rfl; intro w hSw; (try dsimp only at hSw); go_simp; try with_reducible rfl)
  simp only [Act.put, List.setIfInBounds_toArray, List.set_cons_zero, List.set_cons_succ, List.getElem_toArray, List.getElem_cons_succ, List.getElem_cons_zero]
  refine wpAnyH_take (i := 5) (v := ?vb5) (rfl) (by kernel_rfl) (by kernel_rfl) (by kernel_rfl) (fun _ _ _ h => h) ?yb5 (by assumption) ?rb5
  case yb5 => first | (refine Or.inr ⟨?_, ?_⟩; rfl; rfl) | (refine Or.inl ⟨?_, ?_⟩; rfl; intro w hSw; (try dsimp only at hSw); go_simp; try with_reducible rfl)
  simp only [Act.put, List.setIfInBounds_toArray, List.set_cons_zero, List.set_cons_succ, List.getElem_toArray, List.getElem_cons_succ, List.getElem_cons_zero]
  refine wpAnyH_take (i := 6) (v := ?vb6) (rfl) (by kernel_rfl) (by kernel_rfl) (by kernel_rfl) (fun _ _ _ h => h) ?yb6 (by assumption) ?rb6
  case yb6 => first | (refine Or.inr ⟨?_, ?_⟩; rfl; rfl) | (refine Or.inl ⟨?_, ?_⟩; rfl; intro w hSw; (try dsimp only at hSw); go_simp; try with_reducible rfl)
  simp only [Act.put, List.setIfInBounds_toArray, List.set_cons_zero, List.set_cons_succ, List.getElem_toArray, List.getElem_cons_succ, List.getElem_cons_zero]
  refine wpAnyH_take (i := 7) (v := ?vb7) (rfl) (by kernel_rfl) (by kernel_rfl) (by kernel_rfl) (fun _ _ _ h => h) ?yb7 (by assumption) ?rb7
  case yb7 => first | (refine Or.inr ⟨?_, ?_⟩; rfl; rfl) | (refine Or.inl ⟨?_, ?_⟩; rfl; intro w hSw; (try dsimp only at hSw); go_simp; try with_reducible rfl)
  simp only [Act.put, List.setIfInBounds_toArray, List.set_cons_zero, List.set_cons_succ, List.getElem_toArray, List.getElem_cons_succ, List.getElem_cons_zero]
  refine wpAnyH_take (i := 8) (v := ?vb8) (rfl) (by kernel_rfl) (by kernel_rfl) (by kernel_rfl) (fun _ _ _ h => h) ?yb8 (by assumption) ?rb8
  case yb8 => first | (refine Or.inr ⟨?_, ?_⟩; rfl; rfl) | (refine Or.inl ⟨?_, ?_⟩; rfl; intro w hSw; (try dsimp only at hSw); go_simp; try with_reducible rfl)
  simp only [Act.put, List.setIfInBounds_toArray, List.set_cons_zero, List.set_cons_succ, List.getElem_toArray, List.getElem_cons_succ, List.getElem_cons_zero]
  refine wpAnyH_take (i := 9) (v := ?vb9) (rfl) (by kernel_rfl) (by kernel_rfl) (by kernel_rfl) (fun _ _ _ h => h) ?yb9 (by assumption) ?rb9
  case yb9 => first | (refine Or.inr ⟨?_, ?_⟩; rfl; rfl) | (refine Or.inl ⟨?_, ?_⟩; rfl; intro w hSw; (try dsimp only at hSw); go_simp; try with_reducible rfl)
  simp only [Act.put, List.setIfInBounds_toArray, List.set_cons_zero, List.set_cons_succ, List.getElem_toArray, List.getElem_cons_succ, List.getElem_cons_zero]
  refine wpAnyH_take (i := 10) (v := ?vb10) (rfl) (by kernel_rfl) (by kernel_rfl) (by kernel_rfl) (fun _ _ _ h => h) ?yb10 (by assumption) ?rb10
  case yb10 => first | (refine Or.inr ⟨?_, ?_⟩; rfl; rfl) | (refine Or.inl ⟨?_, ?_⟩; rfl; intro w hSw; (try dsimp only at hSw); go_simp; try with_reducible rfl)
  simp only [Act.put, List.setIfInBounds_toArray, List.set_cons_zero, List.set_cons_succ, List.getElem_toArray, List.getElem_cons_succ, List.getElem_cons_zero]
  refine wpAnyH_take (i := 11) (v := ?vb11) (rfl) (by kernel_rfl) (by kernel_rfl) (by kernel_rfl) (fun _ _ _ h => h) ?yb11 (by assumption) ?rb11
  case yb11 => first | (refine Or.inr ⟨?_, ?_⟩; rfl; rfl) | (refine Or.inl ⟨?_, ?_⟩; rfl; intro w hSw; (try dsimp only at hSw); go_simp; try with_reducible rfl)
  simp only [Act.put, List.setIfInBounds_toArray, List.set_cons_zero, List.set_cons_succ, List.getElem_toArray, List.getElem_cons_succ, List.getElem_cons_zero]
  refine wpAnyH_take (i := 12) (v := ?vb12) (rfl) (by kernel_rfl) (by kernel_rfl) (by kernel_rfl) (fun _ _ _ h => h) ?yb12 (by assumption) ?rb12
  case yb12 => first | (refine Or.inr ⟨?_, ?_⟩; rfl; rfl) | (refine Or.inl ⟨?_, ?_⟩; rfl; intro w hSw; (try dsimp only at hSw); go_simp; try with_reducible rfl)
  simp only [Act.put, List.setIfInBounds_toArray, List.set_cons_zero, List.set_cons_succ, List.getElem_toArray, List.getElem_cons_succ, List.getElem_cons_zero]
  refine wpAnyH_take (i := 13) (v := ?vb13) (rfl) (by kernel_rfl) (by kernel_rfl) (by kernel_rfl) (fun _ _ _ h => h) ?yb13 (by assumption) ?rb13
  case yb13 => first | (refine Or.inr ⟨?_, ?_⟩; rfl; rfl) | (refine Or.inl ⟨?_, ?_⟩; rfl; intro w hSw; (try dsimp only at hSw); go_simp; try with_reducible rfl)
  simp only [Act.put, List.setIfInBounds_toArray, List.set_cons_zero, List.set_cons_succ, List.getElem_toArray, List.getElem_cons_succ, List.getElem_cons_zero]
  refine wpAnyH_take (i := 14) (v := ?vb14) (rfl) (by kernel_rfl) (by kernel_rfl) (by kernel_rfl) (fun _ _ _ h => h) ?yb14 (by assumption) ?rb14
  case yb14 => first | (refine Or.inr ⟨?_, ?_⟩; rfl; rfl) | (refine Or.inl ⟨?_, ?_⟩; rfl; intro w hSw; (try dsimp only at hSw); go_simp; try with_reducible rfl)
  simp only [Act.put, List.setIfInBounds_toArray, List.set_cons_zero, List.set_cons_succ, List.getElem_toArray, List.getElem_cons_succ, List.getElem_cons_zero]
  refine wpAnyH_take (i := 15) (v := ?vb15) (rfl) (by kernel_rfl) (by kernel_rfl) (by kernel_rfl) (fun _ _ _ h => h) ?yb15 (by assumption) ?rb15
  case yb15 => first | (refine Or.inr ⟨?_, ?_⟩; rfl; rfl) | (refine Or.inl ⟨?_, ?_⟩; rfl; intro w hSw; (try dsimp only at hSw); go_simp; try with_reducible rfl)
  simp only [Act.put, List.setIfInBounds_toArray, List.set_cons_zero, List.set_cons_succ, List.getElem_toArray, List.getElem_cons_succ, List.getElem_cons_zero]
  refine wpAnyH_take (i := 16) (v := ?vb16) (rfl) (by kernel_rfl) (by kernel_rfl) (by kernel_rfl) (fun _ _ _ h => h) ?yb16 (by assumption) ?rb16
  case yb16 => first | (refine Or.inr ⟨?_, ?_⟩; rfl; rfl) | (refine Or.inl ⟨?_, ?_⟩; rfl; intro w hSw; (try dsimp only at hSw); go_simp; try with_reducible rfl)
  simp only [Act.put, List.setIfInBounds_toArray, List.set_cons_zero, List.set_cons_succ, List.getElem_toArray, List.getElem_cons_succ, List.getElem_cons_zero]
  refine wpAnyH_take (i := 17) (v := ?vb17) (rfl) (by kernel_rfl) (by kernel_rfl) (by kernel_rfl) (fun _ _ _ h => h) ?yb17 (by assumption) ?rb17
  case yb17 => first | (refine Or.inr ⟨?_, ?_⟩; rfl; rfl) | (refine Or.inl ⟨?_, ?_⟩; rfl; intro w hSw; (try dsimp only at hSw); go_simp; try with_reducible rfl)
  simp only [Act.put, List.setIfInBounds_toArray, List.set_cons_zero, List.set_cons_succ, List.getElem_toArray, List.getElem_cons_succ, List.getElem_cons_zero]
  refine wpAnyH_take (i := 18) (v := ?vb18) (rfl) (by kernel_rfl) (by kernel_rfl) (by kernel_rfl) (fun _ _ _ h => h) ?yb18 (by assumption) ?rb18
  case yb18 => first | (refine Or.inr ⟨?_, ?_⟩; rfl; rfl) | (refine Or.inl ⟨?_, ?_⟩; rfl; intro w hSw; (try dsimp only at hSw); go_simp; try with_reducible rfl)
  simp only [Act.put, List.setIfInBounds_toArray, List.set_cons_zero, List.set_cons_succ, List.getElem_toArray, List.getElem_cons_succ, List.getElem_cons_zero]
  refine wpAnyH_take (i := 19) (v := ?vb19) (rfl) (by kernel_rfl) (by kernel_rfl) (by kernel_rfl) (fun _ _ _ h => h) ?yb19 (by assumption) ?rb19
  case yb19 => first | (refine Or.inr ⟨?_, ?_⟩; rfl; rfl) | (refine Or.inl ⟨?_, ?_⟩; rfl; intro w hSw; (try dsimp only at hSw); go_simp; try with_reducible rfl)
  simp only [Act.put, List.setIfInBounds_toArray, List.set_cons_zero, List.set_cons_succ, List.getElem_toArray, List.getElem_cons_succ, List.getElem_cons_zero]
  refine wpAnyH_take (i := 20) (v := ?vb20) (rfl) (by kernel_rfl) (by kernel_rfl) (by kernel_rfl) (fun _ _ _ h => h) ?yb20 (by assumption) ?rb20
  case yb20 => first | (refine Or.inr ⟨?_, ?_⟩; rfl; rfl) | (refine Or.inl ⟨?_, ?_⟩; rfl; intro w hSw; (try dsimp only at hSw); go_simp; try with_reducible rfl)
  simp only [Act.put, List.setIfInBounds_toArray, List.set_cons_zero, List.set_cons_succ, List.getElem_toArray, List.getElem_cons_succ, List.getElem_cons_zero]
  refine wpAnyH_take (i := 21) (v := ?vb21) (rfl) (by kernel_rfl) (by kernel_rfl) (by kernel_rfl) (fun _ _ _ h => h) ?yb21 (by assumption) ?rb21
  case yb21 => first | (refine Or.inr ⟨?_, ?_⟩; rfl; rfl) | (refine Or.inl ⟨?_, ?_⟩; rfl; intro w hSw; (try dsimp only at hSw); go_simp; try with_reducible rfl)
  simp only [Act.put, List.setIfInBounds_toArray, List.set_cons_zero, List.set_cons_succ, List.getElem_toArray, List.getElem_cons_succ, List.getElem_cons_zero]
  refine wpAnyH_take (i := 22) (v := ?vb22) (rfl) (by kernel_rfl) (by kernel_rfl) (by kernel_rfl) (fun _ _ _ h => h) ?yb22 (by assumption) ?rb22
  case yb22 => first | (refine Or.inr ⟨?_, ?_⟩; rfl; rfl) | (refine Or.inl ⟨?_, ?_⟩; rfl; intro w hSw; (try dsimp only at hSw); go_simp; try with_reducible rfl)
  simp only [Act.put, List.setIfInBounds_toArray, List.set_cons_zero, List.set_cons_succ, List.getElem_toArray, List.getElem_cons_succ, List.getElem_cons_zero]
  refine wpAnyH_ready (rs := [23]) (by kernel_rfl) (by simp) ?_
  refine AllReadyH.cons rfl (fun K hK => ?_) AllReadyH.nil
  go_simp
  try clear hHeld
  refine hK.out _ _ (rheld4 ((P3.out.one (x6 * 16777216 + x7 * 65536 + x8 * 256 + x9)).drew.reads H0.out) HL2.out Q6.out Q7.out Q8.out Q9.out) (fun hHeld => ?_)
  clear hK K
  try simp only [Act.put, List.setIfInBounds_toArray, List.set_cons_zero, List.set_cons_succ, List.getElem_toArray, List.getElem_cons_succ, List.getElem_cons_zero]
  refine wpAnyH_done (by kernel_rfl) ?_ _
  clear hHeld
  have P4 := Aside0.mk (P3.out.one (x6 * 16777216 + x7 * 65536 + x8 * 256 + x9)).drew
  generalize (w4.setCell ⟨w.heap.size + 1, 5, none⟩ (.int .u32 (x6 * 16777216 + x7 * 65536 + x8 * 256 + x9))).drew = w5 at P4 ⊢
  clear f5 k5 va vb vc vd ve vf vg vh vi vj
  obtain ⟨d0, d1, d2, d3, d4, d5⟩ := P4.out.2.1.cells
  clear wa wb wc wd
  go_wp2_with fail
  clear d0 d1 d2 d3 d4 d5
  refine (renc_fr (Fr.mk (x0) (x1) (x2 * 256 + x3) (x4) (x5) (x6 * 16777216 + x7 * 65536 + x8 * 256 + x9)) _ HW.out HS.out).mono ?_
  rintro e w6 ⟨base, v, rfl, R⟩
  obtain ⟨A', c', rfl, hr', -, -⟩ := R.slice
  have P6 := Aside0.mk (P4.out.below R.bel)
  have C1 : (convert 27 9 (.slice A' (Fr.mk (x0) (x1) (x2 * 256 + x3) (x4) (x5) (x6 * 16777216 + x7 * 65536 + x8 * 256 + x9)).bytes.length c')).run Try.prog w6 = .ok (.string (strOfNums (Fr.mk (x0) (x1) (x2 * 256 + x3) (x4) (x5) (x6 * 16777216 + x7 * 65536 + x8 * 256 + x9)).bytes)) w6 := string_of_reads Try.underlying27 Try.underlying5 Try.underlying9 (h := hr')
  have C2 : (convert 27 9 (.slice (some ad) l.length c)).run Try.prog w6 = .ok (.string (strOfNums l)) w6 := string_of_reads Try.underlying27 Try.underlying5 Try.underlying9 (h := P6.out.reads H0.out)
  clear R hr'
  rw [HBY.out] at C1 ⊢
  obtain ⟨c0, c1, c2, c3, c4, c5⟩ := P6.out.1.cells
  obtain ⟨d0, d1, d2, d3, d4, d5⟩ := P6.out.2.1.cells
  have f0 := P6.out.1.free 0
  have f1 := P6.out.1.free 1
  have f2 := P6.out.1.free 2
  have f3 := P6.out.1.free 3
  have f4 := P6.out.1.free 4
  have f5 := P6.out.1.free 5
  go_wp2_with fail
  refine bodyPost_ret (ret_cell_tmp rfl _ _ w.heap.size 25 _ (0, 0) _ (by rfl) (Box.set6 P6.out.1 _ _ _ _ _ _) Try.underlying25 rfl (by kernel_rfl)) rfl ?_
  exact ⟨rfl, below6 P6.out.2.2 (Nat.le_refl _) _ _ _ _ _ _⟩
end Go.Proofs.Ytamaemlhnkabcaa.Own
