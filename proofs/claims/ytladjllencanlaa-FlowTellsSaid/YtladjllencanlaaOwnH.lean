/- The walk of slices.Compact at flows (layer 19). -/
import Derived.Test.YtladjllencanlaaOwnG
namespace Go.Proofs.Ytladjllencanlaa.Own
open Go.RowKit Go.Proofs.Ytladjllencanlaa.PFlowTells Go.Proofs.YtladjllencanlaaW.PrintWords Go.Proofs.YtladjllencanlaaW.PrintLast Go.Proofs.YtladjllencanlaaW.PrintMore
set_option linter.unusedVariables false
set_option linter.unusedSimpArgs false

attribute [local go_sem high] eqA27
theorem s27_ne {x y : S27} : (!(x.f0 == y.f0) || (!(x.f1 == y.f1) || !(x.f2 == y.f2))) = !decide (x = y) := by
  rw [← s27_eq, Bool.not_and, Bool.not_and]
/-- What slices.Compact leaves. -/
def Cmp (w : World) (g c : Nat) (d : Array S27) (e : Ending) (w' : World) : Prop := e = .returned (.slice (some ⟨g, 0, none⟩) (Lib.compactUpTo d d.size).length c) ∧ FB w' g (Lib.compactUpTo d d.size).toArray ∧ Upto w w' g
theorem cmp_same {w w' : World} {g c : Nat} {d : Array S27} (h : FB w' g d) (u : Upto w w' g) (hk : ∀ j, j < d.size → Lib.keeps d j = true) : Cmp w g c d (.returned (.slice (some ⟨g, 0, none⟩) d.size c)) w' := by
  have e : Lib.compactUpTo d d.size = d.toList := by rw [Lib.compactUpTo_all d _ hk, Lib.range_map_get]
  refine ⟨by rw [e]; simp, ?_, u⟩
  rw [e]
  simpa using h
set_option maxHeartbeats 4000000 in
set_option maxRecDepth 100000 in
theorem compact_calls (w : World) (g c : Nat) (d : Array S27) (hB : FB w g d) (hc : d.size ≤ c) (hm : d.size ≤ 1000000) :
    Calls Try.prog 24 #[.slice (some ⟨g, 0, none⟩) d.size c] w (Cmp w g c d) := by
  obtain ⟨i27, hi27, hs27⟩ := infoE27
  have CF : Aside0 (∀ (n c j : Nat), j ≤ n → c ≠ j → ∀ (o : Nat) (W : World), (Instr.slice 24 (.slice (some ⟨g, o, none⟩) n c) (some (.int .i64 j)) none none).run Try.prog W = .ok (.slice (some ⟨g, o + j * 3, none⟩) (n - j) (c - j)) W) := Aside0.mk (fun n c j hj hne o W => by
    have := cut_from 24 27 .i64 Try.underlying24 hi27 3 hs27 (some ⟨g, o, none⟩) n c j (by omega) (by omega) W
    rw [Int.toNat_natCast, if_neg hne] at this
    rw [this]
    by_cases h0 : j = 0
    · subst h0; simp [Addr.add]
    · have h3 : ¬ j * 3 = 0 := by omega
      simp [Addr.add, h3])
  have CT : Aside0 (∀ (n c j : Nat), j ≤ n → n ≤ c → ∀ W : World, (Instr.slice 24 (.slice (some ⟨g, 0, none⟩) n c) none (some (.int .i64 j)) none).run Try.prog W = .ok (.slice (some ⟨g, 0, none⟩) j c) W) := Aside0.mk (fun n c j hj hc W => by
    have := cut_to 24 27 .i64 Try.underlying24 hi27 (some ⟨g, 0, none⟩) n c j (by omega) (by omega) hc W
    rwa [Int.toNat_natCast] at this)
  clear hi27 hs27
  have HB := Aside0.mk hB
  clear hB
  by_cases h2 : d.size < 2
  · have e0 : decide ((d.size : Int) < 2) = true := decide_eq_true (by omega)
    have HK := Aside0.mk (fun j (hj : j < d.size) => Lib.keeps_lt_one d j (by omega))
    clear h2 hc hm
    go_enter Try.func24, Try.ntmps24
    go_wp2
    go_ret
    exact cmp_same HB.out (Upto.refl _ _) HK.out
  · have e0 : decide ((d.size : Int) < 2) = false := decide_eq_false (by omega)
    go_enter Try.func24, Try.ntmps24
    go_wp2
    go_loopg [3] d.size (fun n s3 wr => ∃ k : Nat, 1 ≤ k ∧ k ≤ d.size ∧ d.size - k ≤ n ∧ s3 = .int .i64 k ∧ Aside0 (FB wr g d ∧ Upto w wr g ∧ ∀ j, j < k → Lib.keeps d j = true))
    case atStart => exact ⟨1, by omega, by omega, by omega, rfl, ⟨HB.out, Upto.refl _ _, Lib.keeps_lt_one d⟩⟩
    case round =>
      obtain ⟨k, hk1, hk, hn, rfl, A⟩ := hrel
      by_cases hlt : k < d.size
      · obtain ⟨x, ex⟩ : ∃ x, d[k]! = x := ⟨_, rfl⟩
        obtain ⟨y, ey⟩ : ∃ y, d[k - 1]! = y := ⟨_, rfl⟩
        have EX := Aside0.mk ex
        have EY := Aside0.mk ey
        clear ex ey
        have e1 : (k : Int) < (d.size : Int) := by omega
        have e1b : decide ((k : Int) < (d.size : Int)) = true := decide_eq_true e1
        have e2 : IntKind.i64.wrap ((k : Int) - 1) = ((k - 1 : Nat) : Int) := by rw [Go.IntWalk.i64_in _ (by omega)]; omega
        have e6 : k - 1 < d.size := by omega
        have S1 := Aside0.mk (A.out.1.cells k hlt)
        have S2 := Aside0.mk (A.out.1.cells (k - 1) (by omega))
        rw [EX.out] at S1
        rw [EY.out] at S2
        go_wp2_with fail
        refine wp_region_held_drew (S := fun W => W.cell? ⟨g, k * 3, none⟩ = some (.int .i64 x.f0) ∧ W.cell? ⟨g, k * 3 + 1, none⟩ = some (.int .i64 x.f1) ∧ W.cell? ⟨g, k * 3 + 2, none⟩ = some (.int .i64 x.f2) ∧ W.cell? ⟨g, (k - 1) * 3, none⟩ = some (.int .i64 y.f0) ∧ W.cell? ⟨g, (k - 1) * 3 + 1, none⟩ = some (.int .i64 y.f1) ∧ W.cell? ⟨g, (k - 1) * 3 + 2, none⟩ = some (.int .i64 y.f2)) (by kernel_rfl) ?_ (fun hHeld => ?_)
        · exact ⟨(S1.out).1, (S1.out).2.1, (S1.out).2.2, (S2.out).1, (S2.out).2.1, (S2.out).2.2⟩
        refine wpAnyH_take (i := 0) (v := ?v0) (rfl) (by kernel_rfl) (by kernel_rfl) (by kernel_rfl) (fun _ _ _ h => h) ?y0 (by assumption) ?r0
        case y0 => first | (refine Or.inr ⟨?_, ?_⟩; rfl; rfl) | (refine Or.inl ⟨?_, ?_⟩; rfl; intro w hSw; (try dsimp only at hSw); go_simp; try with_reducible rfl)
        simp only [Act.put, List.setIfInBounds_toArray, List.set_cons_zero, List.set_cons_succ, List.getElem_toArray, List.getElem_cons_succ, List.getElem_cons_zero]
        refine wpAnyH_take (i := 1) (v := ?v1) (rfl) (by kernel_rfl) (by kernel_rfl) (by kernel_rfl) (fun _ _ _ h => h) ?y1 (by assumption) ?r1
        case y1 => first | (refine Or.inr ⟨?_, ?_⟩; rfl; rfl) | (refine Or.inl ⟨?_, ?_⟩; rfl; intro w hSw; (try dsimp only at hSw); go_simp; try with_reducible rfl)
        simp only [Act.put, List.setIfInBounds_toArray, List.set_cons_zero, List.set_cons_succ, List.getElem_toArray, List.getElem_cons_succ, List.getElem_cons_zero]
        refine wpAnyH_take (i := 2) (v := ?v2) (rfl) (by kernel_rfl) (by kernel_rfl) (by kernel_rfl) (fun _ _ _ h => h) ?y2 (by assumption) ?r2
        case y2 => first | (refine Or.inr ⟨?_, ?_⟩; rfl; rfl) | (refine Or.inl ⟨?_, ?_⟩; rfl; intro w hSw; (try dsimp only at hSw); go_simp; try with_reducible rfl)
        simp only [Act.put, List.setIfInBounds_toArray, List.set_cons_zero, List.set_cons_succ, List.getElem_toArray, List.getElem_cons_succ, List.getElem_cons_zero]
        refine wpAnyH_take (i := 3) (v := ?v3) (rfl) (by kernel_rfl) (by kernel_rfl) (by kernel_rfl) (fun _ _ _ h => h) ?y3 (by assumption) ?r3
        case y3 => first | (refine Or.inr ⟨?_, ?_⟩; rfl; rfl) | (refine Or.inl ⟨?_, ?_⟩; rfl; intro w hSw; (try dsimp only at hSw); go_simp; try with_reducible rfl)
        simp only [Act.put, List.setIfInBounds_toArray, List.set_cons_zero, List.set_cons_succ, List.getElem_toArray, List.getElem_cons_succ, List.getElem_cons_zero]
        refine wpAnyH_take (i := 4) (v := ?v4) (rfl) (by kernel_rfl) (by kernel_rfl) (by kernel_rfl) (fun _ _ _ h => h) ?y4 (by assumption) ?r4
        case y4 => first | (refine Or.inr ⟨?_, ?_⟩; rfl; rfl) | (refine Or.inl ⟨?_, ?_⟩; rfl; intro w hSw; (try dsimp only at hSw); go_simp; try with_reducible rfl)
        simp only [Act.put, List.setIfInBounds_toArray, List.set_cons_zero, List.set_cons_succ, List.getElem_toArray, List.getElem_cons_succ, List.getElem_cons_zero]
        refine wpAnyH_take (i := 5) (v := ?v5) (rfl) (by kernel_rfl) (by kernel_rfl) (by kernel_rfl) (fun _ _ _ h => h) ?y5 (by assumption) ?r5
        case y5 => first | (refine Or.inr ⟨?_, ?_⟩; rfl; rfl) | (refine Or.inl ⟨?_, ?_⟩; rfl; intro w hSw; (try dsimp only at hSw); go_simp; try with_reducible rfl)
        simp only [Act.put, List.setIfInBounds_toArray, List.set_cons_zero, List.set_cons_succ, List.getElem_toArray, List.getElem_cons_succ, List.getElem_cons_zero]
        refine wpAnyH_take (i := 6) (v := ?v6) (rfl) (by kernel_rfl) (by kernel_rfl) (by kernel_rfl) (fun _ _ _ h => h) ?y6 (by assumption) ?r6
        case y6 => first | (refine Or.inr ⟨?_, ?_⟩; rfl; rfl) | (refine Or.inl ⟨?_, ?_⟩; rfl; intro w hSw; (try dsimp only at hSw); go_simp; try with_reducible rfl)
        simp only [Act.put, List.setIfInBounds_toArray, List.set_cons_zero, List.set_cons_succ, List.getElem_toArray, List.getElem_cons_succ, List.getElem_cons_zero]
        refine wpAnyH_take (i := 7) (v := ?v7) (rfl) (by kernel_rfl) (by kernel_rfl) (by kernel_rfl) (fun _ _ _ h => h) ?y7 (by assumption) ?r7
        case y7 => first | (refine Or.inr ⟨?_, ?_⟩; rfl; rfl) | (refine Or.inl ⟨?_, ?_⟩; rfl; intro w hSw; (try dsimp only at hSw); go_simp; try with_reducible rfl)
        simp only [Act.put, List.setIfInBounds_toArray, List.set_cons_zero, List.set_cons_succ, List.getElem_toArray, List.getElem_cons_succ, List.getElem_cons_zero]
        refine wpAnyH_take (i := 8) (v := ?v8) (rfl) (by kernel_rfl) (by kernel_rfl) (by kernel_rfl) (fun _ _ _ h => h) ?y8 (by assumption) ?r8
        case y8 => first | (refine Or.inr ⟨?_, ?_⟩; rfl; rfl) | (refine Or.inl ⟨?_, ?_⟩; rfl; intro w hSw; (try dsimp only at hSw); go_simp; try with_reducible rfl)
        simp only [Act.put, List.setIfInBounds_toArray, List.set_cons_zero, List.set_cons_succ, List.getElem_toArray, List.getElem_cons_succ, List.getElem_cons_zero]
        refine wpAnyH_take (i := 9) (v := ?v9) (rfl) (by kernel_rfl) (by kernel_rfl) (by kernel_rfl) (fun _ _ _ h => h) ?y9 (by assumption) ?r9
        case y9 => first | (refine Or.inr ⟨?_, ?_⟩; rfl; rfl) | (refine Or.inl ⟨?_, ?_⟩; rfl; intro w hSw; (try dsimp only at hSw); go_simp; try with_reducible rfl)
        simp only [Act.put, List.setIfInBounds_toArray, List.set_cons_zero, List.set_cons_succ, List.getElem_toArray, List.getElem_cons_succ, List.getElem_cons_zero]
        refine wpAnyH_done (by kernel_rfl) ?_ _
        clear hHeld
        by_cases hxy : x = y
        · rw [s27_eq, decide_eq_true hxy]
          have HD := Aside0.mk (show Lib.keeps d k = false from Lib.keeps_neg (by omega) (by rw [EX.out, EY.out]; exact hxy))
          clear hxy
          have SL := CF.out d.size c k (by omega) (by omega) 0
          rw [Nat.zero_add] at SL
          go_wp2
          clear SL
          go_loopg [3, 5] d.size (fun n s3 s5 wy => ∃ (kk k2 : Nat) (dk : Array S27), s3 = .int .i64 kk ∧ s5 = .int .i64 k2 ∧ 1 ≤ k2 ∧ k + k2 ≤ d.size ∧ d.size - (k + k2) ≤ n ∧ Aside0 (FB wy g dk ∧ Upto w wy g ∧ Lib.CompInv d (k + k2) kk dk))
          case atStart => exact ⟨k, 1, d, rfl, rfl, by omega, by omega, by omega, ⟨A.out.1, A.out.2.1.drew, Lib.CompInv.start A.out.2.2 HD.out⟩⟩
          case round =>
            obtain ⟨kk, k2, dk, rfl, rfl, hk2, hle, hn2, I⟩ := hrel
            have hkk := I.out.2.2.lt
            have hds := I.out.2.2.size
            by_cases hlt2 : k2 < d.size - k
            · obtain ⟨u, eu⟩ : ∃ u, dk[k + k2]! = u := ⟨_, rfl⟩
              obtain ⟨v, ev⟩ : ∃ v, dk[k + k2 - 1]! = v := ⟨_, rfl⟩
              have hu := eu
              have hv := ev
              rw [I.out.2.2.high _ (by omega)] at hu
              rw [I.out.2.2.high _ (by omega)] at hv
              have U1 := Aside0.mk (I.out.1.cells (k + k2) (by omega))
              have U2 := Aside0.mk (I.out.1.cells (k + k2 - 1) (by omega))
              rw [eu, show (k + k2) * 3 = k * 3 + k2 * 3 by omega] at U1
              rw [ev, show (k + k2 - 1) * 3 = k * 3 + (k2 - 1) * 3 by omega] at U2
              have U3 := Aside0.mk (I.out.1.cells kk (by omega))
              have HU := Aside0.mk hu
              have HV := Aside0.mk hv
              clear eu ev hu hv
              have i1 : (k2 : Int) < ((d.size - k : Nat) : Int) := by omega
              have i2 : IntKind.i64.wrap ((k2 : Int) - 1) = ((k2 - 1 : Nat) : Int) := by rw [Go.IntWalk.i64_in _ (by omega)]; omega
              have i3 : k2 - 1 < d.size - k := by omega
              have HDS := Aside0.mk hds
              clear hds
              go_wp2_with fail
              refine wp_region_held_drew (S := fun W => W.cell? ⟨g, k * 3 + k2 * 3, none⟩ = some (.int .i64 u.f0) ∧ W.cell? ⟨g, k * 3 + k2 * 3 + 1, none⟩ = some (.int .i64 u.f1) ∧ W.cell? ⟨g, k * 3 + k2 * 3 + 2, none⟩ = some (.int .i64 u.f2) ∧ W.cell? ⟨g, k * 3 + (k2 - 1) * 3, none⟩ = some (.int .i64 v.f0) ∧ W.cell? ⟨g, k * 3 + (k2 - 1) * 3 + 1, none⟩ = some (.int .i64 v.f1) ∧ W.cell? ⟨g, k * 3 + (k2 - 1) * 3 + 2, none⟩ = some (.int .i64 v.f2)) (by kernel_rfl) ?_ (fun hHeld => ?_)
              · exact ⟨(U1.out).1, (U1.out).2.1, (U1.out).2.2, (U2.out).1, (U2.out).2.1, (U2.out).2.2⟩
              refine wpAnyH_take (i := 0) (v := ?vb0) (rfl) (by kernel_rfl) (by kernel_rfl) (by kernel_rfl) (fun _ _ _ h => h) ?yb0 (by assumption) ?rb0
              case yb0 => first | (refine Or.inr ⟨?_, ?_⟩; rfl; rfl) | (refine Or.inl ⟨?_, ?_⟩; rfl; intro w hSw; (try dsimp only at hSw); go_simp; try with_reducible rfl)
              simp only [Act.put, List.setIfInBounds_toArray, List.set_cons_zero, List.set_cons_succ, List.getElem_toArray, List.getElem_cons_succ, List.getElem_cons_zero]
              refine wpAnyH_take (i := 1) (v := ?vb1) (rfl) (by kernel_rfl) (by kernel_rfl) (by kernel_rfl) (fun _ _ _ h => h) ?yb1 (by assumption) ?rb1
              case yb1 => first | (refine Or.inr ⟨?_, ?_⟩; rfl; rfl) | (refine Or.inl ⟨?_, ?_⟩; rfl; intro w hSw; (try dsimp only at hSw); go_simp; try with_reducible rfl)
              simp only [Act.put, List.setIfInBounds_toArray, List.set_cons_zero, List.set_cons_succ, List.getElem_toArray, List.getElem_cons_succ, List.getElem_cons_zero]
              refine wpAnyH_take (i := 2) (v := ?vb2) (rfl) (by kernel_rfl) (by kernel_rfl) (by kernel_rfl) (fun _ _ _ h => h) ?yb2 (by assumption) ?rb2
              case yb2 => first | (refine Or.inr ⟨?_, ?_⟩; rfl; rfl) | (refine Or.inl ⟨?_, ?_⟩; rfl; intro w hSw; (try dsimp only at hSw); go_simp; try with_reducible rfl)
              simp only [Act.put, List.setIfInBounds_toArray, List.set_cons_zero, List.set_cons_succ, List.getElem_toArray, List.getElem_cons_succ, List.getElem_cons_zero]
              refine wpAnyH_take (i := 3) (v := ?vb3) (rfl) (by kernel_rfl) (by kernel_rfl) (by kernel_rfl) (fun _ _ _ h => h) ?yb3 (by assumption) ?rb3
              case yb3 => first | (refine Or.inr ⟨?_, ?_⟩; rfl; rfl) | (refine Or.inl ⟨?_, ?_⟩; rfl; intro w hSw; (try dsimp only at hSw); go_simp; try with_reducible rfl)
              simp only [Act.put, List.setIfInBounds_toArray, List.set_cons_zero, List.set_cons_succ, List.getElem_toArray, List.getElem_cons_succ, List.getElem_cons_zero]
              refine wpAnyH_take (i := 4) (v := ?vb4) (rfl) (by kernel_rfl) (by kernel_rfl) (by kernel_rfl) (fun _ _ _ h => h) ?yb4 (by assumption) ?rb4
              case yb4 => first | (refine Or.inr ⟨?_, ?_⟩; rfl; rfl) | (refine Or.inl ⟨?_, ?_⟩; rfl; intro w hSw; (try dsimp only at hSw); go_simp; try with_reducible rfl)
              simp only [Act.put, List.setIfInBounds_toArray, List.set_cons_zero, List.set_cons_succ, List.getElem_toArray, List.getElem_cons_succ, List.getElem_cons_zero]
              refine wpAnyH_take (i := 5) (v := ?vb5) (rfl) (by kernel_rfl) (by kernel_rfl) (by kernel_rfl) (fun _ _ _ h => h) ?yb5 (by assumption) ?rb5
              case yb5 => first | (refine Or.inr ⟨?_, ?_⟩; rfl; rfl) | (refine Or.inl ⟨?_, ?_⟩; rfl; intro w hSw; (try dsimp only at hSw); go_simp; try with_reducible rfl)
              simp only [Act.put, List.setIfInBounds_toArray, List.set_cons_zero, List.set_cons_succ, List.getElem_toArray, List.getElem_cons_succ, List.getElem_cons_zero]
              refine wpAnyH_take (i := 6) (v := ?vb6) (rfl) (by kernel_rfl) (by kernel_rfl) (by kernel_rfl) (fun _ _ _ h => h) ?yb6 (by assumption) ?rb6
              case yb6 => first | (refine Or.inr ⟨?_, ?_⟩; rfl; rfl) | (refine Or.inl ⟨?_, ?_⟩; rfl; intro w hSw; (try dsimp only at hSw); go_simp; try with_reducible rfl)
              simp only [Act.put, List.setIfInBounds_toArray, List.set_cons_zero, List.set_cons_succ, List.getElem_toArray, List.getElem_cons_succ, List.getElem_cons_zero]
              refine wpAnyH_take (i := 7) (v := ?vb7) (rfl) (by kernel_rfl) (by kernel_rfl) (by kernel_rfl) (fun _ _ _ h => h) ?yb7 (by assumption) ?rb7
              case yb7 => first | (refine Or.inr ⟨?_, ?_⟩; rfl; rfl) | (refine Or.inl ⟨?_, ?_⟩; rfl; intro w hSw; (try dsimp only at hSw); go_simp; try with_reducible rfl)
              simp only [Act.put, List.setIfInBounds_toArray, List.set_cons_zero, List.set_cons_succ, List.getElem_toArray, List.getElem_cons_succ, List.getElem_cons_zero]
              refine wpAnyH_take (i := 8) (v := ?vb8) (rfl) (by kernel_rfl) (by kernel_rfl) (by kernel_rfl) (fun _ _ _ h => h) ?yb8 (by assumption) ?rb8
              case yb8 => first | (refine Or.inr ⟨?_, ?_⟩; rfl; rfl) | (refine Or.inl ⟨?_, ?_⟩; rfl; intro w hSw; (try dsimp only at hSw); go_simp; try with_reducible rfl)
              simp only [Act.put, List.setIfInBounds_toArray, List.set_cons_zero, List.set_cons_succ, List.getElem_toArray, List.getElem_cons_succ, List.getElem_cons_zero]
              refine wpAnyH_take (i := 9) (v := ?vb9) (rfl) (by kernel_rfl) (by kernel_rfl) (by kernel_rfl) (fun _ _ _ h => h) ?yb9 (by assumption) ?rb9
              case yb9 => first | (refine Or.inr ⟨?_, ?_⟩; rfl; rfl) | (refine Or.inl ⟨?_, ?_⟩; rfl; intro w hSw; (try dsimp only at hSw); go_simp; try with_reducible rfl)
              simp only [Act.put, List.setIfInBounds_toArray, List.set_cons_zero, List.set_cons_succ, List.getElem_toArray, List.getElem_cons_succ, List.getElem_cons_zero]
              refine wpAnyH_done (by kernel_rfl) ?_ _
              clear hHeld
              by_cases huv : u = v
              · rw [s27_ne, decide_eq_true huv, Bool.not_true]
                go_wp2
                go_roundg (d.size - (k + (k2 + 1)))
                case measure => omega
                case rel => exact ⟨kk, k2 + 1, dk, rfl, by go_num, by omega, by omega, Nat.le_refl _, ⟨I.out.1, I.out.2.1.drew, I.out.2.2.skip (Lib.keeps_neg (by omega) (by rw [HU.out, HV.out]; exact huv))⟩⟩
              · rw [s27_ne, decide_eq_false huv, Bool.not_false]
                obtain ⟨a0, a1, a2⟩ := U1.out
                obtain ⟨b0, b1, b2⟩ := U3.out
                have f0 := I.out.1.free (kk * 3)
                have f1 := I.out.1.free (kk * 3 + 1)
                have f2 := I.out.1.free (kk * 3 + 2)
                have o1 : kk < d.size := by omega
                go_wp2
                go_roundg (d.size - (k + (k2 + 1)))
                case measure => omega
                case rel => exact ⟨kk + 1, k2 + 1, dk.setIfInBounds kk u, by go_num, by go_num, by omega, by omega, Nat.le_refl _, ⟨(I.out.1.drew).set kk (by have := HDS.out; omega) u, (((I.out.2.1.drew).setCell _ _).setCell _ _).setCell _ _, by have := I.out.2.2.keep (by omega) (Lib.keeps_pos (by rw [HU.out, HV.out]; exact huv)); rwa [HU.out] at this⟩⟩
            · have hend : k + k2 = d.size := by omega
              have i1 : ¬ (k2 : Int) < ((d.size - k : Nat) : Int) := by omega
              have SL := CF.out d.size c kk (by omega) (by omega) 0
              rw [Nat.zero_add] at SL
              have ST := CT.out d.size c kk (by omega) hc
              obtain ⟨vs, hcl⟩ := clear_flows wr g kk (d.size - kk) (c - kk) (by omega) (fun j hj => by
                obtain ⟨b0, b1, b2⟩ := I.out.1.cells (kk + j / 3) (by omega)
                rcases (show j % 3 = 0 ∨ j % 3 = 1 ∨ j % 3 = 2 by omega) with h | h | h
                · rw [show kk * 3 + j = (kk + j / 3) * 3 by omega, b0]; rfl
                · rw [show kk * 3 + j = (kk + j / 3) * 3 + 1 by omega, b1]; rfl
                · rw [show kk * 3 + j = (kk + j / 3) * 3 + 2 by omega, b2]; rfl) (fun o => I.out.1.free o)
              go_wp2
              go_ret
              have hI := I.out.2.2
              rw [hend] at hI
              refine ⟨by rw [hI.len]; rfl, FB.cleared I.out.1 kk (by omega) vs (by simpa using hI.len) (fun i hi => ?_), Upto.setCells _ _ _ I.out.2.1⟩
              have h1 := hI.low i hi
              have h2 : i < (Lib.compactUpTo d d.size).length := by rw [hI.len]; exact hi
              rw [List.getElem?_eq_getElem h2] at h1
              rw [getElem!_pos _ i (by simpa using h2)]
              simpa using Option.some.inj h1
        · rw [s27_eq, decide_eq_false hxy]
          have HD := Aside0.mk (show Lib.keeps d k = true from Lib.keeps_pos (by rw [EX.out, EY.out]; exact hxy))
          clear hxy
          go_wp2
          go_roundg (d.size - (k + 1))
          case measure => omega
          case rel => exact ⟨k + 1, by omega, by omega, Nat.le_refl _, by go_num, ⟨A.out.1, A.out.2.1.drew, fun j hj => by
            by_cases e : j = k
            · subst e; exact HD.out
            · exact A.out.2.2 j (by omega)⟩⟩
      · have e1 : ¬ (k : Int) < (d.size : Int) := by omega
        go_wp2
        go_ret
        exact cmp_same A.out.1 A.out.2.1 (fun j hj => A.out.2.2 j (by omega))
end Go.Proofs.Ytladjllencanlaa.Own
