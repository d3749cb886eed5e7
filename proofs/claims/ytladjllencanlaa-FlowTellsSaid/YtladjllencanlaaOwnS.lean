/- FlowOrder, FlowWhole (layer 19). -/
import Derived.Test.YtladjllencanlaaOwnR
import Derived.Deep.RegionHeld3
namespace Go.Proofs.Ytladjllencanlaa.Own
open Go.RowKit Go.Proofs.Ytladjllencanlaa.PFlowTells Go.Proofs.YtladjllencanlaaW.PrintWords Go.Proofs.YtladjllencanlaaW.PrintLast Go.Proofs.YtladjllencanlaaW.PrintMore
set_option linter.unusedVariables false
set_option linter.unusedSimpArgs false

attribute [local go_sem high] eqA27
theorem cells27 {w W : World} {ad : Addr} {l : List S27} (h : Kd.C k27 w (some ad) l.length l) (hb : Below w.heap.size w W) (k : Nat) (hk : k < l.length) {x : S27} (hx : l.getD k z27 = x) :
    W.cell? (ad.add (k * 3)) = some (.int .i64 x.f0) ∧ W.cell? ⟨(ad.add (k * 3)).block, (ad.add (k * 3)).off + 1, none⟩ = some (.int .i64 x.f1) ∧ W.cell? ⟨(ad.add (k * 3)).block, (ad.add (k * 3)).off + 2, none⟩ = some (.int .i64 x.f2) := by
  obtain ⟨a1, e1, y0, y1, y2⟩ := at_T27 (Kd.C_below h hb) (k : Int) (by omega) (by omega)
  obtain rfl := Option.some.inj e1
  have e : rd_T27 l (k : Int) = x := by unfold rd_T27; rw [Int.toNat_natCast, hx]
  rw [e, Int.toNat_natCast] at y0 y1 y2
  exact ⟨y0, y1, y2⟩
theorem c27_some {w : World} {A : Option Addr} {l : List S27} (h : Kd.C k27 w A l.length l) (hl : 0 < l.length) : ∃ ad, A = some ad := by
  obtain ⟨ad, e, _⟩ := h.2.2 hl
  exact ⟨ad, e⟩
set_option maxHeartbeats 1000000 in
set_option maxRecDepth 100000 in
theorem order_big (A : Option Addr) (c : Nat) (l : List S40) (w : World) (hl : 200 < l.length) : Calls Try.prog 3 #[.slice A l.length c] w fun e w' => e = .returned (.bool true) ∧ Below w.heap.size w w' := by
  have e0 : decide ((l.length : Int) > 200) = true := decide_eq_true (by omega)
  clear hl
  go_enter Try.func3, Try.ntmps3
  go_wp2_with fail
  refine (known_calls _).mono ?_
  rintro e w1 ⟨rfl, hb⟩
  have B1 := Aside0.mk hb
  clear hb
  go_wp2
  go_ret
  exact ⟨rfl, B1.out⟩
set_option maxHeartbeats 2000000 in
set_option maxRecDepth 100000 in
theorem order_ok (A : Option Addr) (c : Nat) (l : List S40) (w : World) (hr : Kd.C k40 w A l.length l) (hc : l.length ≤ c) (hl : ¬ 200 < l.length) : Calls Try.prog 3 #[.slice A l.length c] w fun e w' => e = .returned (.bool true) ∧ Below w.heap.size w w' := by
  have e0 : decide ((l.length : Int) > 200) = false := decide_eq_false (by omega)
  have HR := Aside0.mk hr
  have HC := Aside0.mk hc
  have HL := Aside0.mk hl
  have HL2 : Aside0 (l.length ≤ 1000) := Aside0.mk (by omega)
  have FL := Aside0.mk (flows_len l)
  clear hr hc hl
  go_enter Try.func3, Try.ntmps3
  go_wp2_with fail
  refine (known_calls _).mono ?_
  rintro e w1 ⟨rfl, hb⟩
  have B1 := Aside0.mk hb
  have HR1 := Aside0.mk (Kd.C_below HR.out hb)
  clear hb
  go_wp2_with fail
  refine (flows_at A c l.length l rfl _ HR1.out HC.out HL2.out).mono ?_
  rintro e w2 ⟨AF, cF, rfl, hF, hcF, hb⟩
  have HF := Aside0.mk hF
  have HCF := Aside0.mk hcF
  have B2 := Aside0.mk (below_then B1.out B1.out.size hb)
  have HR2 := Aside0.mk (Kd.C_below HR1.out hb)
  clear hF hcF hb
  have hfl : (flowsOf l).length ≤ 200 := by have := FL.out; have := HL.out; omega
  go_wp2
  go_loopg [4] (flowsOf l).length (fun n s4 wr => ∃ k : Nat, 1 ≤ k ∧ (flowsOf l).length - k ≤ n ∧ (k ≤ (flowsOf l).length ∨ k = 1) ∧ s4 = .int .i64 k ∧ Aside0 (Below w2.heap.size w2 wr))
  case atStart => exact ⟨1, by omega, by omega, by omega, rfl, ⟨Below.refl _ _⟩⟩
  case round =>
    obtain ⟨k, hk1, hk, hk3, rfl, R⟩ := hrel
    by_cases hlt : k < (flowsOf l).length
    · obtain ⟨ad, rfl⟩ := c27_some HF.out (by omega)
      obtain ⟨x, ex⟩ : ∃ x, (flowsOf l).getD (k - 1) z27 = x := ⟨_, rfl⟩
      obtain ⟨y, ey⟩ : ∃ y, (flowsOf l).getD k z27 = y := ⟨_, rfl⟩
      obtain ⟨x0, x1, x2⟩ := cells27 HF.out R.out (k - 1) (by omega) ex
      obtain ⟨y0, y1, y2⟩ := cells27 HF.out R.out k hlt ey
      have hxy := flows_at_lt l (k - 1) k (by omega) hlt
      rw [ex, ey] at hxy
      have EYY := Aside0.mk ey
      clear ex ey
      have e1 : (k : Int) < ((flowsOf l).length : Int) := by omega
      have e2 : IntKind.i64.wrap ((k : Int) - 1) = ((k - 1 : Nat) : Int) := by rw [Go.IntWalk.i64_in _ (by omega)]; omega
      have e2b : wrap64 ((k : Int) - 1) = ((k - 1 : Nat) : Int) := by rw [Go.IntWalk.wrap64_in _ (by omega)]; omega
      have e2c : (k : Int) - 1 = ((k - 1 : Nat) : Int) := by omega
      have e3 : k - 1 < (flowsOf l).length := by omega
      obtain ⟨a0, a1, a2⟩ := x
      obtain ⟨b0, b1, b2⟩ := y
      dsimp only at x0 x1 x2 y0 y1 y2
      obtain ⟨v0, v1, v2⟩ := cells27 HF.out (below_alloc R.out (.cells #[.int .i64 a0, .int .i64 a1, .int .i64 a2] 27)) k hlt (x := ⟨b0, b1, b2⟩) EYY.out
      dsimp only at v0 v1 v2
      clear y0 y1 y2
      unfold lexS at hxy
      dsimp only at hxy
      rcases hxy with h | ⟨h, h' | ⟨h', h''⟩⟩
      · have f1 : decide (a0 > b0) = false := decide_eq_false (by omega)
        have f2 : (a0 == b0) = false := beq_eq_false_iff_ne.mpr (by omega)
        clear h
        go_wp2
        go_roundg ((flowsOf l).length - (k + 1))
        case measure => omega
        case rel => exact ⟨k + 1, by omega, by omega, by omega, by go_num, ⟨below_alloc (below_alloc R.out (.cells #[.int .i64 a0, .int .i64 a1, .int .i64 a2] 27)) (.cells #[.int .i64 b0, .int .i64 b1, .int .i64 b2] 27)⟩⟩
      · subst h
        have f1 : decide (a0 > a0) = false := decide_eq_false (by omega)
        have f3 : decide (a1 > b1) = false := decide_eq_false (by omega)
        have f4 : (a1 == b1) = false := beq_eq_false_iff_ne.mpr (by omega)
        clear h'
        go_wp2
        go_roundg ((flowsOf l).length - (k + 1))
        case measure => omega
        case rel => exact ⟨k + 1, by omega, by omega, by omega, by go_num, ⟨below_alloc (below_alloc R.out (.cells #[.int .i64 a0, .int .i64 a1, .int .i64 a2] 27)) (.cells #[.int .i64 a0, .int .i64 b1, .int .i64 b2] 27)⟩⟩
      · subst h
        subst h'
        have f1 : decide (a0 > a0) = false := decide_eq_false (by omega)
        have f3 : decide (a1 > a1) = false := decide_eq_false (by omega)
        have f5 : decide (a2 ≥ b2) = false := decide_eq_false (by omega)
        clear h''
        go_wp2
        go_roundg ((flowsOf l).length - (k + 1))
        case measure => omega
        case rel => exact ⟨k + 1, by omega, by omega, by omega, by go_num, ⟨below_alloc (below_alloc R.out (.cells #[.int .i64 a0, .int .i64 a1, .int .i64 a2] 27)) (.cells #[.int .i64 a0, .int .i64 a1, .int .i64 b2] 27)⟩⟩
    · have e1 : ¬ (k : Int) < ((flowsOf l).length : Int) := by omega
      go_wp2
      go_ret
      exact ⟨rfl, below_then B2.out B2.out.size R.out⟩
theorem flowOrder_term (A : Option Addr) (n c : Nat) (l : List S40) (w : World) (hr : Pks w A n l) (hc : n ≤ c) : Calls Try.prog 3 #[.slice A n c] w fun e w' => e = .returned (.bool true) ∧ Below w.heap.size w w' := by
  obtain ⟨rfl, hr⟩ := hr
  by_cases hl : 200 < l.length
  · exact order_big A c l w hl
  · exact order_ok A c l w hr hc hl
set_option maxHeartbeats 1000000 in
set_option maxRecDepth 100000 in
theorem whole_big (A : Option Addr) (c : Nat) (l : List S40) (w : World) (hl : 200 < l.length) : Calls Try.prog 8 #[.slice A l.length c] w fun e w' => e = .returned (.bool true) ∧ Below w.heap.size w w' := by
  have e0 : decide ((l.length : Int) > 200) = true := decide_eq_true (by omega)
  clear hl
  go_enter Try.func8, Try.ntmps8
  go_wp2_with fail
  refine (known_calls _).mono ?_
  rintro e w1 ⟨rfl, hb⟩
  have B1 := Aside0.mk hb
  clear hb
  go_wp2
  go_ret
  exact ⟨rfl, B1.out⟩
set_option maxHeartbeats 4000000 in
set_option maxRecDepth 100000 in
theorem whole_ok (A : Option Addr) (c : Nat) (l : List S40) (w : World) (hr : Kd.C k40 w A l.length l) (hc : l.length ≤ c) (hl : ¬ 200 < l.length) : Calls Try.prog 8 #[.slice A l.length c] w fun e w' => e = .returned (.bool true) ∧ Below w.heap.size w w' := by
  have e0 : decide ((l.length : Int) > 200) = false := decide_eq_false (by omega)
  have HR := Aside0.mk hr
  have HC := Aside0.mk hc
  have HL := Aside0.mk hl
  have HL2 : Aside0 (l.length ≤ 1000) := Aside0.mk (by omega)
  have FL := Aside0.mk (flows_len l)
  clear hr hc hl
  go_enter Try.func8, Try.ntmps8
  go_wp2_with fail
  refine (known_calls _).mono ?_
  rintro e w1 ⟨rfl, hb⟩
  have B1 := Aside0.mk hb
  have HR1 := Aside0.mk (Kd.C_below HR.out hb)
  clear hb
  go_wp2_with fail
  refine (flows_at A c l.length l rfl _ HR1.out HC.out HL2.out).mono ?_
  rintro e w2 ⟨AF, cF, rfl, hF, hcF, hb⟩
  have HF := Aside0.mk hF
  have HCF := Aside0.mk hcF
  have B2 := Aside0.mk (below_then B1.out B1.out.size hb)
  have HR2 := Aside0.mk (Kd.C_below HR1.out hb)
  clear hF hcF hb
  have hfl : (flowsOf l).length ≤ 200 := by have := FL.out; have := HL.out; omega
  go_wp2
  go_loopg [4, 5] (flowsOf l).length (fun n s4 s5 wr => ∃ k : Nat, k + n = (flowsOf l).length ∧ s5 = .int .i64 k ∧ s4 = .int .i64 (upto l k : Nat) ∧ Aside0 (Below w2.heap.size w2 wr))
  case atStart => exact ⟨0, by omega, rfl, rfl, ⟨Below.refl _ _⟩⟩
  case round =>
    obtain ⟨k, hk, rfl, rfl, R⟩ := hrel
    by_cases hlt : k < (flowsOf l).length
    · obtain ⟨ad, rfl⟩ := c27_some HF.out (by omega)
      obtain ⟨x, ex⟩ : ∃ x, (flowsOf l).getD k z27 = x := ⟨_, rfl⟩
      obtain ⟨x0, x1, x2⟩ := cells27 HF.out R.out k hlt ex
      have US := Aside0.mk (upto_succ l k hlt)
      have BP := bodies_pos l k hlt
      have UL := upto_le l (k + 1)
      rw [upto_succ l k hlt] at UL
      rw [ex] at US BP UL
      have EX := Aside0.mk ex
      clear ex
      have e1 : (k : Int) < ((flowsOf l).length : Int) := by omega
      have hls := HL.out
      go_wp2_with fail
      refine (bodies_calls A c l.length l rfl x _ (Kd.C_below HR2.out R.out) HC.out HL2.out).mono ?_
      rintro e w3 ⟨A3, c3, rfl, _, _, hb⟩
      have R2 := Aside0.mk (below_then R.out R.out.size hb)
      clear hb x0 x1 x2
      generalize (bodiesOf l x).length = m at US BP UL ⊢
      generalize upto l k = u at US UL ⊢
      have e4 : ((m : Int) == 0) = false := beq_eq_false_iff_ne.mpr (by omega)
      go_wp2
      go_loopg [7] k (fun n s7 wy => ∃ j : Nat, j + n = k ∧ s7 = .int .i64 j ∧ Aside0 (Below w2.heap.size w2 wy))
      case atStart => exact ⟨0, by omega, rfl, R2⟩
      case round =>
        obtain ⟨j, hj, rfl, R3⟩ := hrel
        by_cases hjk : j < k
        · obtain ⟨y, ey⟩ : ∃ y, (flowsOf l).getD j z27 = y := ⟨_, rfl⟩
          have hne : ¬ y = x := by
            have h := flows_at_lt l j k hjk hlt
            rw [ey, EX.out] at h
            intro e
            subst e
            exact lex_irr _ h
          have HNE := Aside0.mk hne
          have C1 := Aside0.mk (fun (W : World) (hb : Below w2.heap.size w2 W) => cells27 HF.out hb j (by omega) ey)
          have C2 := Aside0.mk (fun (W : World) (hb : Below w2.heap.size w2 W) => cells27 HF.out hb k hlt EX.out)
          clear ey hne
          have e5 : (j : Int) < (k : Int) := by omega
          have e6 : j < (flowsOf l).length := by omega
          go_wp2_with fail
          refine wp_region_held_drew (S := fun W => W.cell? (ad.add (j * 3)) = some (.int .i64 y.f0) ∧ W.cell? ⟨(ad.add (j * 3)).block, (ad.add (j * 3)).off + 1, none⟩ = some (.int .i64 y.f1) ∧ W.cell? ⟨(ad.add (j * 3)).block, (ad.add (j * 3)).off + 2, none⟩ = some (.int .i64 y.f2) ∧ W.cell? (ad.add (k * 3)) = some (.int .i64 x.f0) ∧ W.cell? ⟨(ad.add (k * 3)).block, (ad.add (k * 3)).off + 1, none⟩ = some (.int .i64 x.f1) ∧ W.cell? ⟨(ad.add (k * 3)).block, (ad.add (k * 3)).off + 2, none⟩ = some (.int .i64 x.f2)) (by kernel_rfl) ?_ (fun hHeld => ?_)
          · exact ⟨(C1.out _ R3.out.drew).1, (C1.out _ R3.out.drew).2.1, (C1.out _ R3.out.drew).2.2, (C2.out _ R3.out.drew).1, (C2.out _ R3.out.drew).2.1, (C2.out _ R3.out.drew).2.2⟩
          refine wpAnyH_take (i := 0) (v := ?v0) (rfl) (by kernel_rfl) (by kernel_rfl) (by kernel_rfl) (fun _ _ _ h => h) ?y0 (by assumption) ?r0
          case y0 => first | (refine Or.inr ⟨?_, ?_⟩; rfl; rfl) | (refine Or.inl ⟨?_, ?_⟩; rfl; intro w hSw; (try dsimp only at hSw); go_simp; try with_reducible rfl)
          simp only [Act.put, List.setIfInBounds_toArray, List.set_cons_zero, List.set_cons_succ, List.getElem_toArray, List.getElem_cons_succ, List.getElem_cons_zero]
          refine wpAnyH_take (i := 1) (v := ?v1) (rfl) (by kernel_rfl) (by kernel_rfl) (by kernel_rfl) (fun _ _ _ h => h) ?y1 (by assumption) ?r1
          case y1 => first | (refine Or.inr ⟨?_, ?_⟩; rfl; rfl) | (refine Or.inl ⟨?_, ?_⟩; rfl; intro w hSw; (try dsimp only at hSw); go_simp; try with_reducible rfl)
          simp only [Act.put, List.setIfInBounds_toArray, List.set_cons_zero, List.set_cons_succ, List.getElem_toArray, List.getElem_cons_succ, List.getElem_cons_zero]
          refine wpAnyH_take (i := 2) (v := ?v2) (rfl) (by kernel_rfl) (by kernel_rfl) (by kernel_rfl) (fun _ _ _ h => h) ?y2 (by assumption) ?r2
          case y2 => first | (refine Or.inr ⟨?_, ?_⟩; rfl; rfl) | (refine Or.inl ⟨?_, ?_⟩; rfl; intro w hSw; (try dsimp only at hSw); go_simp; try with_reducible rfl)
          simp only [Act.put, List.setIfInBounds_toArray, List.set_cons_zero, List.set_cons_succ, List.getElem_toArray, List.getElem_cons_succ, List.getElem_cons_zero]
          refine wpAnyH_take (i := 3) (v := ?v3) (rfl) (by kernel_rfl) (by kernel_rfl) (by kernel_rfl) (fun _ _ _ h => h) ?y3 (by assumption) ?r3
          case y3 => first | (refine Or.inr ⟨?_, ?_⟩; rfl; rfl) | (refine Or.inl ⟨?_, ?_⟩; rfl; intro w hSw; (try dsimp only at hSw); go_simp; try with_reducible rfl)
          simp only [Act.put, List.setIfInBounds_toArray, List.set_cons_zero, List.set_cons_succ, List.getElem_toArray, List.getElem_cons_succ, List.getElem_cons_zero]
          refine wpAnyH_take (i := 4) (v := ?v4) (rfl) (by kernel_rfl) (by kernel_rfl) (by kernel_rfl) (fun _ _ _ h => h) ?y4 (by assumption) ?r4
          case y4 => first | (refine Or.inr ⟨?_, ?_⟩; rfl; rfl) | (refine Or.inl ⟨?_, ?_⟩; rfl; intro w hSw; (try dsimp only at hSw); go_simp; try with_reducible rfl)
          simp only [Act.put, List.setIfInBounds_toArray, List.set_cons_zero, List.set_cons_succ, List.getElem_toArray, List.getElem_cons_succ, List.getElem_cons_zero]
          refine wpAnyH_take (i := 5) (v := ?v5) (rfl) (by kernel_rfl) (by kernel_rfl) (by kernel_rfl) (fun _ _ _ h => h) ?y5 (by assumption) ?r5
          case y5 => first | (refine Or.inr ⟨?_, ?_⟩; rfl; rfl) | (refine Or.inl ⟨?_, ?_⟩; rfl; intro w hSw; (try dsimp only at hSw); go_simp; try with_reducible rfl)
          simp only [Act.put, List.setIfInBounds_toArray, List.set_cons_zero, List.set_cons_succ, List.getElem_toArray, List.getElem_cons_succ, List.getElem_cons_zero]
          refine wpAnyH_take (i := 6) (v := ?v6) (rfl) (by kernel_rfl) (by kernel_rfl) (by kernel_rfl) (fun _ _ _ h => h) ?y6 (by assumption) ?r6
          case y6 => first | (refine Or.inr ⟨?_, ?_⟩; rfl; rfl) | (refine Or.inl ⟨?_, ?_⟩; rfl; intro w hSw; (try dsimp only at hSw); go_simp; try with_reducible rfl)
          simp only [Act.put, List.setIfInBounds_toArray, List.set_cons_zero, List.set_cons_succ, List.getElem_toArray, List.getElem_cons_succ, List.getElem_cons_zero]
          refine wpAnyH_take (i := 7) (v := ?v7) (rfl) (by kernel_rfl) (by kernel_rfl) (by kernel_rfl) (fun _ _ _ h => h) ?y7 (by assumption) ?r7
          case y7 => first | (refine Or.inr ⟨?_, ?_⟩; rfl; rfl) | (refine Or.inl ⟨?_, ?_⟩; rfl; intro w hSw; (try dsimp only at hSw); go_simp; try with_reducible rfl)
          simp only [Act.put, List.setIfInBounds_toArray, List.set_cons_zero, List.set_cons_succ, List.getElem_toArray, List.getElem_cons_succ, List.getElem_cons_zero]
          refine wpAnyH_take (i := 8) (v := ?v8) (rfl) (by kernel_rfl) (by kernel_rfl) (by kernel_rfl) (fun _ _ _ h => h) ?y8 (by assumption) ?r8
          case y8 => first | (refine Or.inr ⟨?_, ?_⟩; rfl; rfl) | (refine Or.inl ⟨?_, ?_⟩; rfl; intro w hSw; (try dsimp only at hSw); go_simp; try with_reducible rfl)
          simp only [Act.put, List.setIfInBounds_toArray, List.set_cons_zero, List.set_cons_succ, List.getElem_toArray, List.getElem_cons_succ, List.getElem_cons_zero]
          refine wpAnyH_done (by kernel_rfl) ?_ _
          clear hHeld
          rw [s27_eq, decide_eq_false HNE.out]
          go_wp2
          go_roundg (k - (j + 1))
          case measure => omega
          case rel => exact ⟨j + 1, by omega, by go_num, ⟨R3.out.drew⟩⟩
        · have e5 : ¬ (j : Int) < (k : Int) := by omega
          go_wp2
          go_roundg ((flowsOf l).length - (k + 1))
          case measure => omega
          case rel => exact ⟨k + 1, by omega, by go_num, by rw [US.out]; go_num, R3⟩
    · have hkl : k = (flowsOf l).length := by omega
      have e1 : ¬ (k : Int) < ((flowsOf l).length : Int) := by omega
      subst hkl
      rw [upto_all l]
      go_wp2
      go_ret
      exact ⟨rfl, below_then B2.out B2.out.size R.out⟩
theorem flowWhole_term (A : Option Addr) (n c : Nat) (l : List S40) (w : World) (hr : Pks w A n l) (hc : n ≤ c) : Calls Try.prog 8 #[.slice A n c] w fun e w' => e = .returned (.bool true) ∧ Below w.heap.size w w' := by
  obtain ⟨rfl, hr⟩ := hr
  by_cases hl : 200 < l.length
  · exact whole_big A c l w hl
  · exact whole_ok A c l w hr hc hl
end Go.Proofs.Ytladjllencanlaa.Own
