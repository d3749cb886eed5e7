/- FlowTells (layer 19). -/
import Derived.Test.YtladjllencanlaaOwnS
import Derived.Test.YtladjllencanlaaOwnT
namespace Go.Proofs.Ytladjllencanlaa.Own
open Go.ChangeShapes Go.WideShapes Go.Deep Go.RowKit Go.Proofs.Ytladjllencanlaa.PFlowTells Go.Proofs.YtladjllencanlaaW.PrintWords Go.Proofs.YtladjllencanlaaW.PrintLast Go.Proofs.YtladjllencanlaaW.PrintMore
set_option linter.unusedVariables false
set_option linter.unusedSimpArgs false

attribute [local go_sem high] eqA27
theorem held2 {w W : World} {ad bd : Addr} {l : List S27} (h : Kd.C k27 w (some ad) l.length l) (h' : Kd.C k27 w (some bd) l.length l) (hb : Below w.heap.size w W) (k : Nat) (hk : k < l.length) {x : S27} (hx : l.getD k z27 = x) :
    W.cell? (ad.add (k * 3)) = some (.int .i64 x.f0) ∧ W.cell? ⟨(ad.add (k * 3)).block, (ad.add (k * 3)).off + 1, none⟩ = some (.int .i64 x.f1) ∧ W.cell? ⟨(ad.add (k * 3)).block, (ad.add (k * 3)).off + 2, none⟩ = some (.int .i64 x.f2) ∧ W.cell? (bd.add (k * 3)) = some (.int .i64 x.f0) ∧ W.cell? ⟨(bd.add (k * 3)).block, (bd.add (k * 3)).off + 1, none⟩ = some (.int .i64 x.f1) ∧ W.cell? ⟨(bd.add (k * 3)).block, (bd.add (k * 3)).off + 2, none⟩ = some (.int .i64 x.f2) := by
  obtain ⟨a, b, c⟩ := cells27 h hb k hk hx
  obtain ⟨a', b', c'⟩ := cells27 h' hb k hk hx
  exact ⟨a, b, c, a', b', c'⟩
theorem box3 {w W : World} {g : Nat} {f : S27} (h : w.heap[g]? = some (.cells #[.int .i64 f.f0, .int .i64 f.f1, .int .i64 f.f2] 27 (0, 0))) (hb : Below w.heap.size w W) : W.cell? ⟨g, 0, none⟩ = some (.int .i64 f.f0) ∧ W.cell? ⟨g, 1, none⟩ = some (.int .i64 f.f1) ∧ W.cell? ⟨g, 2, none⟩ = some (.int .i64 f.f2) := by
  have h' : W.heap[g]? = some (.cells #[.int .i64 f.f0, .int .i64 f.f1, .int .i64 f.f2] 27 (0, 0)) := (hb.block g (blk_lt h)).trans h
  exact ⟨blk_cell h' 0, blk_cell h' 1, blk_cell h' 2⟩
/-- A flow that comes in. -/
theorem flow_open {H : Type} {enc : TypeId × Value → H} {W : World} {base b0 : Nat} {spare : Nat → Bool} {held : Bool} {r : Reach} {v : Value} {d : DataW H} {p : List MemPlace}
    (hv : Value.okWide Try.prog W r b0 27 v) (h : DataW.Trod enc Try.prog W base spare held 27 v d p) : ∃ F : S27, v = .agg #[.int .i64 F.f0, .int .i64 F.f1, .int .i64 F.f2] ∧ True := by
  obtain ⟨⟨l⟩, rfl, hsz⟩ := Go.WideShapes.okWide_struct Try.underlying27 hv
  obtain ⟨fuel, hf⟩ := h
  obtain ⟨xs, n, _, _, _, hlen, hg⟩ := DataW.trod_struct Try.underlying27 hf
  have C27 : Try.prog.cellsOf 27 = 3 := by kernel_rfl
  have C3 : Try.prog.cellsOf 3 = 1 := by kernel_rfl
  match l, hsz.trans C27, xs, hlen with
  | [x0, x1, x2], _, [z0, z1, z2], _ =>
    have h0 := hg 0 _ rfl
    have h1 := hg 1 _ rfl
    have h2 := hg 2 _ rfl
    simp [Value.cells, C3] at h0 h1 h2
    obtain ⟨k, e0, -, w0⟩ := DataW.trod_int Try.underlying3 h0
    obtain ⟨l, e1, -, w1⟩ := DataW.trod_int Try.underlying3 h1
    obtain ⟨s, e2, -, w2⟩ := DataW.trod_int Try.underlying3 h2
    simp only [List.cons.injEq, and_true] at e0 e1 e2
    subst e0 e1 e2
    exact ⟨⟨k, l, s⟩, rfl, trivial⟩
set_option maxHeartbeats 1000000 in
set_option maxRecDepth 100000 in
theorem tells_big (A : Option Addr) (c : Nat) (l : List S40) (f : S27) (w : World) (hl : 200 < l.length) : Calls Try.prog 6 #[.slice A l.length c, .agg #[.int .i64 f.f0, .int .i64 f.f1, .int .i64 f.f2]] w fun e w' => e = .returned (.bool true) ∧ Below w.heap.size w w' := by
  have e0 : decide ((l.length : Int) > 200) = true := decide_eq_true (by omega)
  clear hl
  go_enter Try.func6, Try.ntmps6
  go_wp2_with fail
  refine (known_calls _).mono ?_
  rintro e w1 ⟨rfl, hb⟩
  have B1 := Aside0.mk (below_then (below_alloc (Below.refl w.heap.size w) (.cells #[.int .i64 f.f0, .int .i64 f.f1, .int .i64 f.f2] 27)) (by simp) hb)
  clear hb
  go_wp2
  go_ret
  exact ⟨rfl, B1.out⟩
set_option maxHeartbeats 4000000 in
set_option maxRecDepth 100000 in
theorem tells_ok (A : Option Addr) (c : Nat) (l : List S40) (f : S27) (w : World) (hr : Kd.C k40 w A l.length l) (hc : l.length ≤ c) (hl : ¬ 200 < l.length) : Calls Try.prog 6 #[.slice A l.length c, .agg #[.int .i64 f.f0, .int .i64 f.f1, .int .i64 f.f2]] w fun e w' => e = .returned (.bool true) ∧ Below w.heap.size w w' := by
  have e0 : decide ((l.length : Int) > 200) = false := decide_eq_false (by omega)
  have HR := Aside0.mk (Kd.C_alloc hr (.cells #[.int .i64 f.f0, .int .i64 f.f1, .int .i64 f.f2] 27))
  have HC := Aside0.mk hc
  have HL := Aside0.mk hl
  have HL2 : Aside0 (l.length ≤ 1000) := Aside0.mk (by omega)
  have FL := Aside0.mk (flows_len l)
  have FB0 := Aside0.mk (blk_new w (.cells #[.int .i64 f.f0, .int .i64 f.f1, .int .i64 f.f2] 27))
  clear hr hc hl
  go_enter Try.func6, Try.ntmps6
  go_wp2_with fail
  refine (known_calls _).mono ?_
  rintro e w1 ⟨rfl, hb⟩
  have B1 := Aside0.mk (below_then (below_alloc (Below.refl w.heap.size w) (.cells #[.int .i64 f.f0, .int .i64 f.f1, .int .i64 f.f2] 27)) (by simp) hb)
  have HR1 := Aside0.mk (Kd.C_below HR.out hb)
  have FB1 := Aside0.mk ((hb.block w.heap.size (by simp)).trans FB0.out)
  clear hb
  go_wp2_with fail
  refine (flows_at A c l.length l rfl _ HR1.out HC.out HL2.out).mono ?_
  rintro e w2 ⟨AF, cF, rfl, hF, hcF, hb⟩
  have HF := Aside0.mk hF
  have HCF := Aside0.mk hcF
  have B2 := Aside0.mk (below_then B1.out B1.out.size hb)
  have HR2 := Aside0.mk (Kd.C_below HR1.out hb)
  have FB2 := Aside0.mk ((hb.block w.heap.size (blk_lt FB1.out)).trans FB1.out)
  clear hF hcF hb
  go_wp2_with fail
  refine (rflows_calls A c l.length l rfl _ HR2.out HC.out HL2.out).mono ?_
  rintro e w3 ⟨AG, cG, rfl, hG, hcG, hb⟩
  have HG := Aside0.mk hG
  have HCG := Aside0.mk hcG
  have HF3 := Aside0.mk (Kd.C_below HF.out hb)
  have B3 := Aside0.mk (below_then B2.out B2.out.size hb)
  have HR3 := Aside0.mk (Kd.C_below HR2.out hb)
  have FB := Aside0.mk ((hb.block w.heap.size (blk_lt FB2.out)).trans FB2.out)
  clear hG hcG hb
  have hfl : (flowsOf l).length ≤ 200 := by have := FL.out; have := HL.out; omega
  go_wp2
  go_loopg [7] (flowsOf l).length (fun n s7 wr => ∃ k : Nat, k + n = (flowsOf l).length ∧ s7 = .int .i64 k ∧ Aside0 (Below w3.heap.size w3 wr))
  case atStart => exact ⟨0, by omega, rfl, ⟨Below.refl _ _⟩⟩
  case round =>
    obtain ⟨k, hk, rfl, R⟩ := hrel
    by_cases hlt : k < (flowsOf l).length
    · obtain ⟨ad, rfl⟩ := c27_some HF3.out (by omega)
      obtain ⟨bd, rfl⟩ := c27_some HG.out (by omega)
      obtain ⟨x, ex⟩ : ∃ x, (flowsOf l).getD k z27 = x := ⟨_, rfl⟩
      have EX := Aside0.mk ex
      clear ex
      have e1 : (k : Int) < ((flowsOf l).length : Int) := by omega
      have hls := HL.out
      have BS : Aside0 ((bodiesOf l x).length ≤ 1000000) := Aside0.mk (by have := bodies_short l x; omega)
      go_wp2_with fail
      refine wp_region_held_drew (S := fun W => W.cell? (ad.add (k * 3)) = some (.int .i64 x.f0) ∧ W.cell? ⟨(ad.add (k * 3)).block, (ad.add (k * 3)).off + 1, none⟩ = some (.int .i64 x.f1) ∧ W.cell? ⟨(ad.add (k * 3)).block, (ad.add (k * 3)).off + 2, none⟩ = some (.int .i64 x.f2) ∧ W.cell? (bd.add (k * 3)) = some (.int .i64 x.f0) ∧ W.cell? ⟨(bd.add (k * 3)).block, (bd.add (k * 3)).off + 1, none⟩ = some (.int .i64 x.f1) ∧ W.cell? ⟨(bd.add (k * 3)).block, (bd.add (k * 3)).off + 2, none⟩ = some (.int .i64 x.f2)) (by kernel_rfl) ?_ (fun hHeld => ?_)
      · exact held2 HF3.out HG.out R.out.drew k hlt EX.out
      refine wpAnyH_take (i := 0) (v := ?v0) (rfl) (by kernel_rfl) (by kernel_rfl) (by kernel_rfl) (fun _ _ _ h => h) ?y0 (by assumption) ?r0
      case y0 => first | (refine Or.inr ⟨?_, ?_⟩; rfl; rfl) | (refine Or.inl ⟨?_, ?_⟩; rfl; intro w hSw; (try dsimp only at hSw); go_simp; try with_reducible rfl)
      simp only [Act.put, List.setIfInBounds_toArray, List.set_cons_zero, List.set_cons_succ, List.getElem_toArray, List.getElem_cons_succ, List.getElem_cons_zero]
      refine wpAnyH_take (i := 1) (v := ?v1) (rfl) (by kernel_rfl) (by kernel_rfl) (by kernel_rfl) (fun _ _ _ h => h) ?y1 (by assumption) ?r1
      case y1 => first | (refine Or.inr ⟨?_, ?_⟩; rfl; rfl) | (refine Or.inl ⟨?_, ?_⟩; rfl; intro w hSw; (try dsimp only at hSw); go_simp; try with_reducible rfl)
      simp only [Act.put, List.setIfInBounds_toArray, List.set_cons_zero, List.set_cons_succ, List.getElem_toArray, List.getElem_cons_succ, List.getElem_cons_zero]
      refine wpAnyH_take (i := 2) (v := ?v2) (rfl) (by kernel_rfl) (by kernel_rfl) (by kernel_rfl) (fun _ _ _ h => h) ?y2 (by assumption) ?r2
      case y2 => first | (refine Or.inr ⟨?_, ?_⟩; rfl; rfl) | (refine Or.inl ⟨?_, ?_⟩; rfl; intro w hSw; (try dsimp only at hSw); go_simp; try with_reducible rfl)
      simp only [Act.put, List.setIfInBounds_toArray, List.set_cons_zero, List.set_cons_succ, List.getElem_toArray, List.getElem_cons_succ, List.getElem_cons_zero]
      refine wpAnyH_take (i := 3) (v := ?v3) (rfl) (by kernel_rfl) (by kernel_rfl) (by kernel_rfl) (fun _ _ _ h => h) ?y3 (by assumption) ?r3
      case y3 => first | (refine Or.inr ⟨?_, ?_⟩; rfl; rfl) | (refine Or.inl ⟨?_, ?_⟩; rfl; intro w hSw; (try dsimp only at hSw); go_simp; try with_reducible rfl)
      simp only [Act.put, List.setIfInBounds_toArray, List.set_cons_zero, List.set_cons_succ, List.getElem_toArray, List.getElem_cons_succ, List.getElem_cons_zero]
      refine wpAnyH_take (i := 4) (v := ?v4) (rfl) (by kernel_rfl) (by kernel_rfl) (by kernel_rfl) (fun _ _ _ h => h) ?y4 (by assumption) ?r4
      case y4 => first | (refine Or.inr ⟨?_, ?_⟩; rfl; rfl) | (refine Or.inl ⟨?_, ?_⟩; rfl; intro w hSw; (try dsimp only at hSw); go_simp; try with_reducible rfl)
      simp only [Act.put, List.setIfInBounds_toArray, List.set_cons_zero, List.set_cons_succ, List.getElem_toArray, List.getElem_cons_succ, List.getElem_cons_zero]
      refine wpAnyH_take (i := 5) (v := ?v5) (rfl) (by kernel_rfl) (by kernel_rfl) (by kernel_rfl) (fun _ _ _ h => h) ?y5 (by assumption) ?r5
      case y5 => first | (refine Or.inr ⟨?_, ?_⟩; rfl; rfl) | (refine Or.inl ⟨?_, ?_⟩; rfl; intro w hSw; (try dsimp only at hSw); go_simp; try with_reducible rfl)
      simp only [Act.put, List.setIfInBounds_toArray, List.set_cons_zero, List.set_cons_succ, List.getElem_toArray, List.getElem_cons_succ, List.getElem_cons_zero]
      refine wpAnyH_take (i := 6) (v := ?v6) (rfl) (by kernel_rfl) (by kernel_rfl) (by kernel_rfl) (fun _ _ _ h => h) ?y6 (by assumption) ?r6
      case y6 => first | (refine Or.inr ⟨?_, ?_⟩; rfl; rfl) | (refine Or.inl ⟨?_, ?_⟩; rfl; intro w hSw; (try dsimp only at hSw); go_simp; try with_reducible rfl)
      simp only [Act.put, List.setIfInBounds_toArray, List.set_cons_zero, List.set_cons_succ, List.getElem_toArray, List.getElem_cons_succ, List.getElem_cons_zero]
      refine wpAnyH_take (i := 7) (v := ?v7) (rfl) (by kernel_rfl) (by kernel_rfl) (by kernel_rfl) (fun _ _ _ h => h) ?y7 (by assumption) ?r7
      case y7 => first | (refine Or.inr ⟨?_, ?_⟩; rfl; rfl) | (refine Or.inl ⟨?_, ?_⟩; rfl; intro w hSw; (try dsimp only at hSw); go_simp; try with_reducible rfl)
      simp only [Act.put, List.setIfInBounds_toArray, List.set_cons_zero, List.set_cons_succ, List.getElem_toArray, List.getElem_cons_succ, List.getElem_cons_zero]
      refine wpAnyH_take (i := 8) (v := ?v8) (rfl) (by kernel_rfl) (by kernel_rfl) (by kernel_rfl) (fun _ _ _ h => h) ?y8 (by assumption) ?r8
      case y8 => first | (refine Or.inr ⟨?_, ?_⟩; rfl; rfl) | (refine Or.inl ⟨?_, ?_⟩; rfl; intro w hSw; (try dsimp only at hSw); go_simp; try with_reducible rfl)
      simp only [Act.put, List.setIfInBounds_toArray, List.set_cons_zero, List.set_cons_succ, List.getElem_toArray, List.getElem_cons_succ, List.getElem_cons_zero]
      refine wpAnyH_take (i := 9) (v := ?v9) (rfl) (by kernel_rfl) (by kernel_rfl) (by kernel_rfl) (fun _ _ _ h => h) ?y9 (by assumption) ?r9
      case y9 => first | (refine Or.inr ⟨?_, ?_⟩; rfl; rfl) | (refine Or.inl ⟨?_, ?_⟩; rfl; intro w hSw; (try dsimp only at hSw); go_simp; try with_reducible rfl)
      simp only [Act.put, List.setIfInBounds_toArray, List.set_cons_zero, List.set_cons_succ, List.getElem_toArray, List.getElem_cons_succ, List.getElem_cons_zero]
      refine wpAnyH_take (i := 10) (v := ?v10) (rfl) (by kernel_rfl) (by kernel_rfl) (by kernel_rfl) (fun _ _ _ h => h) ?y10 (by assumption) ?r10
      case y10 => first | (refine Or.inr ⟨?_, ?_⟩; rfl; rfl) | (refine Or.inl ⟨?_, ?_⟩; rfl; intro w hSw; (try dsimp only at hSw); go_simp; try with_reducible rfl)
      simp only [Act.put, List.setIfInBounds_toArray, List.set_cons_zero, List.set_cons_succ, List.getElem_toArray, List.getElem_cons_succ, List.getElem_cons_zero]
      refine wpAnyH_take (i := 11) (v := ?v11) (rfl) (by kernel_rfl) (by kernel_rfl) (by kernel_rfl) (fun _ _ _ h => h) ?y11 (by assumption) ?r11
      case y11 => first | (refine Or.inr ⟨?_, ?_⟩; rfl; rfl) | (refine Or.inl ⟨?_, ?_⟩; rfl; intro w hSw; (try dsimp only at hSw); go_simp; try with_reducible rfl)
      simp only [Act.put, List.setIfInBounds_toArray, List.set_cons_zero, List.set_cons_succ, List.getElem_toArray, List.getElem_cons_succ, List.getElem_cons_zero]
      refine wpAnyH_take (i := 12) (v := ?v12) (rfl) (by kernel_rfl) (by kernel_rfl) (by kernel_rfl) (fun _ _ _ h => h) ?y12 (by assumption) ?r12
      case y12 => first | (refine Or.inr ⟨?_, ?_⟩; rfl; rfl) | (refine Or.inl ⟨?_, ?_⟩; rfl; intro w hSw; (try dsimp only at hSw); go_simp; try with_reducible rfl)
      simp only [Act.put, List.setIfInBounds_toArray, List.set_cons_zero, List.set_cons_succ, List.getElem_toArray, List.getElem_cons_succ, List.getElem_cons_zero]
      refine wpAnyH_take (i := 13) (v := ?v13) (rfl) (by kernel_rfl) (by kernel_rfl) (by kernel_rfl) (fun _ _ _ h => h) ?y13 (by assumption) ?r13
      case y13 => first | (refine Or.inr ⟨?_, ?_⟩; rfl; rfl) | (refine Or.inl ⟨?_, ?_⟩; rfl; intro w hSw; (try dsimp only at hSw); go_simp; try with_reducible rfl)
      simp only [Act.put, List.setIfInBounds_toArray, List.set_cons_zero, List.set_cons_succ, List.getElem_toArray, List.getElem_cons_succ, List.getElem_cons_zero]
      refine wpAnyH_take (i := 14) (v := ?v14) (rfl) (by kernel_rfl) (by kernel_rfl) (by kernel_rfl) (fun _ _ _ h => h) ?y14 (by assumption) ?r14
      case y14 => first | (refine Or.inr ⟨?_, ?_⟩; rfl; rfl) | (refine Or.inl ⟨?_, ?_⟩; rfl; intro w hSw; (try dsimp only at hSw); go_simp; try with_reducible rfl)
      simp only [Act.put, List.setIfInBounds_toArray, List.set_cons_zero, List.set_cons_succ, List.getElem_toArray, List.getElem_cons_succ, List.getElem_cons_zero]
      refine wpAnyH_take (i := 16) (v := ?v16) (rfl) (by kernel_rfl) (by kernel_rfl) (by kernel_rfl) (fun _ _ _ h => h) ?y16 (by assumption) ?r16
      case y16 => first | (refine Or.inr ⟨?_, ?_⟩; rfl; rfl) | (refine Or.inl ⟨?_, ?_⟩; rfl; intro w hSw; (try dsimp only at hSw); go_simp; try with_reducible rfl)
      simp only [Act.put, List.setIfInBounds_toArray, List.set_cons_zero, List.set_cons_succ, List.getElem_toArray, List.getElem_cons_succ, List.getElem_cons_zero]
      refine wpAnyH_take (i := 17) (v := ?v17) (rfl) (by kernel_rfl) (by kernel_rfl) (by kernel_rfl) (fun _ _ _ h => h) ?y17 (by assumption) ?r17
      case y17 => first | (refine Or.inr ⟨?_, ?_⟩; rfl; rfl) | (refine Or.inl ⟨?_, ?_⟩; rfl; intro w hSw; (try dsimp only at hSw); go_simp; try with_reducible rfl)
      simp only [Act.put, List.setIfInBounds_toArray, List.set_cons_zero, List.set_cons_succ, List.getElem_toArray, List.getElem_cons_succ, List.getElem_cons_zero]
      refine wpAnyH_take (i := 18) (v := ?v18) (rfl) (by kernel_rfl) (by kernel_rfl) (by kernel_rfl) (fun _ _ _ h => h) ?y18 (by assumption) ?r18
      case y18 => first | (refine Or.inr ⟨?_, ?_⟩; rfl; rfl) | (refine Or.inl ⟨?_, ?_⟩; rfl; intro w hSw; (try dsimp only at hSw); go_simp; try with_reducible rfl)
      simp only [Act.put, List.setIfInBounds_toArray, List.set_cons_zero, List.set_cons_succ, List.getElem_toArray, List.getElem_cons_succ, List.getElem_cons_zero]
      refine wpAnyH_take (i := 19) (v := ?v19) (rfl) (by kernel_rfl) (by kernel_rfl) (by kernel_rfl) (fun _ _ _ h => h) ?y19 (by assumption) ?r19
      case y19 => first | (refine Or.inr ⟨?_, ?_⟩; rfl; rfl) | (refine Or.inl ⟨?_, ?_⟩; rfl; intro w hSw; (try dsimp only at hSw); go_simp; try with_reducible rfl)
      simp only [Act.put, List.setIfInBounds_toArray, List.set_cons_zero, List.set_cons_succ, List.getElem_toArray, List.getElem_cons_succ, List.getElem_cons_zero]
      refine wpAnyH_take (i := 20) (v := ?v20) (rfl) (by kernel_rfl) (by kernel_rfl) (by kernel_rfl) (fun _ _ _ h => h) ?y20 (by assumption) ?r20
      case y20 => first | (refine Or.inr ⟨?_, ?_⟩; rfl; rfl) | (refine Or.inl ⟨?_, ?_⟩; rfl; intro w hSw; (try dsimp only at hSw); go_simp; try with_reducible rfl)
      simp only [Act.put, List.setIfInBounds_toArray, List.set_cons_zero, List.set_cons_succ, List.getElem_toArray, List.getElem_cons_succ, List.getElem_cons_zero]
      refine wpAnyH_ready (rs := [15]) (by kernel_rfl) (by simp) ?_
      refine AllReadyH.cons rfl (fun K hK => ?_) AllReadyH.nil
      go_simp
      refine (bodies_calls A c l.length l rfl x _ (Kd.C_below HR3.out R.out.drew) HC.out HL2.out).mono ?_
      rintro e w5 ⟨A5, c5, rfl, hr5, hc5, hb⟩
      have R5 := Aside0.mk (below_then R.out.drew R.out.drew.size hb)
      have Q5 := Aside0.mk hr5
      have U5 := Aside0.mk hc5
      clear hr5 hc5 hb hHeld
      go_wp2_with fail
      try clear hHeld
      refine hK.out _ _ (held2 HF3.out HG.out R5.out k hlt EX.out) (fun hHeld => ?_)
      clear hK K
      try simp only [Act.put, List.setIfInBounds_toArray, List.set_cons_zero, List.set_cons_succ, List.getElem_toArray, List.getElem_cons_succ, List.getElem_cons_zero]
      refine wpAnyH_ready (rs := [21]) (by kernel_rfl) (by simp) ?_
      refine AllReadyH.cons rfl (fun K hK => ?_) AllReadyH.nil
      go_simp
      refine (rbodies_calls A c l.length l rfl x _ (Kd.C_below HR3.out R5.out) HC.out HL2.out).mono ?_
      rintro e w6 ⟨A6, c6, rfl, hr6, hc6, hb⟩
      have R6 := Aside0.mk (below_then R5.out R5.out.size hb)
      have Q5b := Aside0.mk (Q5.out.below hb)
      have Q6 := Aside0.mk hr6
      have U6 := Aside0.mk hc6
      clear hr6 hc6 hb hHeld
      go_wp2_with fail
      try clear hHeld
      refine hK.out _ _ (held2 HF3.out HG.out R6.out k hlt EX.out) (fun hHeld => ?_)
      clear hK K
      try simp only [Act.put, List.setIfInBounds_toArray, List.set_cons_zero, List.set_cons_succ, List.getElem_toArray, List.getElem_cons_succ, List.getElem_cons_zero]
      refine wpAnyH_ready (rs := [22]) (by kernel_rfl) (by simp) ?_
      refine AllReadyH.cons rfl (fun K hK => ?_) AllReadyH.nil
      go_simp
      refine (same_calls _ _ _ _ _ _ Q5b.out Q6.out U5.out U6.out BS.out).mono ?_
      rintro e w7 ⟨rfl, hb⟩
      have R7 := Aside0.mk (below_then R6.out R6.out.size hb)
      clear hb hHeld
      go_wp2_with fail
      try clear hHeld
      refine hK.out _ _ (held2 HF3.out HG.out R7.out k hlt EX.out) (fun hHeld => ?_)
      clear hK K
      try simp only [Act.put, List.setIfInBounds_toArray, List.set_cons_zero, List.set_cons_succ, List.getElem_toArray, List.getElem_cons_succ, List.getElem_cons_zero]
      refine wpAnyH_take (i := 23) (v := ?v23) (rfl) (by kernel_rfl) (by kernel_rfl) (by kernel_rfl) (fun _ _ _ h => h) ?y23 (by assumption) ?r23
      case y23 => first | (refine Or.inr ⟨?_, ?_⟩; rfl; rfl) | (refine Or.inl ⟨?_, ?_⟩; rfl; intro w hSw; (try dsimp only at hSw); go_simp; try with_reducible rfl)
      simp only [Act.put, List.setIfInBounds_toArray, List.set_cons_zero, List.set_cons_succ, List.getElem_toArray, List.getElem_cons_succ, List.getElem_cons_zero]
      refine wpAnyH_take (i := 24) (v := ?v24) (rfl) (by kernel_rfl) (by kernel_rfl) (by kernel_rfl) (fun _ _ _ h => h) ?y24 (by assumption) ?r24
      case y24 => first | (refine Or.inr ⟨?_, ?_⟩; rfl; rfl) | (refine Or.inl ⟨?_, ?_⟩; rfl; intro w hSw; (try dsimp only at hSw); go_simp; try with_reducible rfl)
      simp only [Act.put, List.setIfInBounds_toArray, List.set_cons_zero, List.set_cons_succ, List.getElem_toArray, List.getElem_cons_succ, List.getElem_cons_zero]
      refine wpAnyH_done (by kernel_rfl) ?_ _
      clear hHeld
      go_wp2
      go_roundg ((flowsOf l).length - (k + 1))
      case measure => omega
      case rel => exact ⟨k + 1, by omega, by go_num, R7⟩
    · have e1 : ¬ (k : Int) < ((flowsOf l).length : Int) := by omega
      have hls := HL.out
      have BS : Aside0 ((bodiesOf l f).length ≤ 1000000) := Aside0.mk (by have := bodies_short l f; omega)
      go_wp2_with fail
      refine wp_region_held_drew (S := fun W => W.cell? ⟨w.heap.size, 0, none⟩ = some (.int .i64 f.f0) ∧ W.cell? ⟨w.heap.size, 1, none⟩ = some (.int .i64 f.f1) ∧ W.cell? ⟨w.heap.size, 2, none⟩ = some (.int .i64 f.f2)) (by kernel_rfl) ?_ (fun hHeld => ?_)
      · exact box3 FB.out R.out.drew
      refine wpAnyH_take (i := 0) (v := ?vq0) (rfl) (by kernel_rfl) (by kernel_rfl) (by kernel_rfl) (fun _ _ _ h => h) ?yq0 (by assumption) ?rq0
      case yq0 => first | (refine Or.inr ⟨?_, ?_⟩; rfl; rfl) | (refine Or.inl ⟨?_, ?_⟩; rfl; intro w hSw; (try dsimp only at hSw); go_simp; try with_reducible rfl)
      simp only [Act.put, List.setIfInBounds_toArray, List.set_cons_zero, List.set_cons_succ, List.getElem_toArray, List.getElem_cons_succ, List.getElem_cons_zero]
      refine wpAnyH_take (i := 1) (v := ?vq1) (rfl) (by kernel_rfl) (by kernel_rfl) (by kernel_rfl) (fun _ _ _ h => h) ?yq1 (by assumption) ?rq1
      case yq1 => first | (refine Or.inr ⟨?_, ?_⟩; rfl; rfl) | (refine Or.inl ⟨?_, ?_⟩; rfl; intro w hSw; (try dsimp only at hSw); go_simp; try with_reducible rfl)
      simp only [Act.put, List.setIfInBounds_toArray, List.set_cons_zero, List.set_cons_succ, List.getElem_toArray, List.getElem_cons_succ, List.getElem_cons_zero]
      refine wpAnyH_take (i := 3) (v := ?vq3) (rfl) (by kernel_rfl) (by kernel_rfl) (by kernel_rfl) (fun _ _ _ h => h) ?yq3 (by assumption) ?rq3
      case yq3 => first | (refine Or.inr ⟨?_, ?_⟩; rfl; rfl) | (refine Or.inl ⟨?_, ?_⟩; rfl; intro w hSw; (try dsimp only at hSw); go_simp; try with_reducible rfl)
      simp only [Act.put, List.setIfInBounds_toArray, List.set_cons_zero, List.set_cons_succ, List.getElem_toArray, List.getElem_cons_succ, List.getElem_cons_zero]
      refine wpAnyH_take (i := 4) (v := ?vq4) (rfl) (by kernel_rfl) (by kernel_rfl) (by kernel_rfl) (fun _ _ _ h => h) ?yq4 (by assumption) ?rq4
      case yq4 => first | (refine Or.inr ⟨?_, ?_⟩; rfl; rfl) | (refine Or.inl ⟨?_, ?_⟩; rfl; intro w hSw; (try dsimp only at hSw); go_simp; try with_reducible rfl)
      simp only [Act.put, List.setIfInBounds_toArray, List.set_cons_zero, List.set_cons_succ, List.getElem_toArray, List.getElem_cons_succ, List.getElem_cons_zero]
      refine wpAnyH_ready (rs := [2]) (by kernel_rfl) (by simp) ?_
      refine AllReadyH.cons rfl (fun K hK => ?_) AllReadyH.nil
      go_simp
      refine (bodies_calls A c l.length l rfl f _ (Kd.C_below HR3.out R.out.drew) HC.out HL2.out).mono ?_
      rintro e w5 ⟨A5, c5, rfl, hr5, hc5, hb⟩
      have R5 := Aside0.mk (below_then R.out.drew R.out.drew.size hb)
      have Q5 := Aside0.mk hr5
      have U5 := Aside0.mk hc5
      clear hr5 hc5 hb hHeld
      go_wp2_with fail
      try clear hHeld
      refine hK.out _ _ (box3 FB.out R5.out) (fun hHeld => ?_)
      clear hK K
      try simp only [Act.put, List.setIfInBounds_toArray, List.set_cons_zero, List.set_cons_succ, List.getElem_toArray, List.getElem_cons_succ, List.getElem_cons_zero]
      refine wpAnyH_ready (rs := [5]) (by kernel_rfl) (by simp) ?_
      refine AllReadyH.cons rfl (fun K hK => ?_) AllReadyH.nil
      go_simp
      refine (rbodies_calls A c l.length l rfl f _ (Kd.C_below HR3.out R5.out) HC.out HL2.out).mono ?_
      rintro e w6 ⟨A6, c6, rfl, hr6, hc6, hb⟩
      have R6 := Aside0.mk (below_then R5.out R5.out.size hb)
      have Q5b := Aside0.mk (Q5.out.below hb)
      have Q6 := Aside0.mk hr6
      have U6 := Aside0.mk hc6
      clear hr6 hc6 hb hHeld
      go_wp2_with fail
      try clear hHeld
      refine hK.out _ _ (box3 FB.out R6.out) (fun hHeld => ?_)
      clear hK K
      try simp only [Act.put, List.setIfInBounds_toArray, List.set_cons_zero, List.set_cons_succ, List.getElem_toArray, List.getElem_cons_succ, List.getElem_cons_zero]
      refine wpAnyH_ready (rs := [6]) (by kernel_rfl) (by simp) ?_
      refine AllReadyH.cons rfl (fun K hK => ?_) AllReadyH.nil
      go_simp
      refine (same_calls _ _ _ _ _ _ Q5b.out Q6.out U5.out U6.out BS.out).mono ?_
      rintro e w7 ⟨rfl, hb⟩
      have R7 := Aside0.mk (below_then R6.out R6.out.size hb)
      clear hb hHeld
      go_wp2_with fail
      try clear hHeld
      refine hK.out _ _ (box3 FB.out R7.out) (fun hHeld => ?_)
      clear hK K
      try simp only [Act.put, List.setIfInBounds_toArray, List.set_cons_zero, List.set_cons_succ, List.getElem_toArray, List.getElem_cons_succ, List.getElem_cons_zero]
      refine wpAnyH_take (i := 7) (v := ?vq7) (rfl) (by kernel_rfl) (by kernel_rfl) (by kernel_rfl) (fun _ _ _ h => h) ?yq7 (by assumption) ?rq7
      case yq7 => first | (refine Or.inr ⟨?_, ?_⟩; rfl; rfl) | (refine Or.inl ⟨?_, ?_⟩; rfl; intro w hSw; (try dsimp only at hSw); go_simp; try with_reducible rfl)
      simp only [Act.put, List.setIfInBounds_toArray, List.set_cons_zero, List.set_cons_succ, List.getElem_toArray, List.getElem_cons_succ, List.getElem_cons_zero]
      refine wpAnyH_done (by kernel_rfl) ?_ _
      clear hHeld
      go_wp2
      go_ret
      exact ⟨rfl, below_then B3.out B3.out.size R7.out⟩
theorem flowTells_term (A : Option Addr) (n c : Nat) (l : List S40) (f : S27) (w : World) (hr : Pks w A n l) (hc : n ≤ c) (hf : True) : Calls Try.prog 6 #[.slice A n c, .agg #[.int .i64 f.f0, .int .i64 f.f1, .int .i64 f.f2]] w fun e w' => e = .returned (.bool true) ∧ Below w.heap.size w w' := by
  obtain ⟨rfl, hr⟩ := hr
  by_cases hl : 200 < l.length
  · exact tells_big A c l f w hl
  · exact tells_ok A c l f w hr hc hl
end Go.Proofs.Ytladjllencanlaa.Own
