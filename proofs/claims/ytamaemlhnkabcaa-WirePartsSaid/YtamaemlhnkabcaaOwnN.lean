/- WireParts (layer 3). -/
import Derived.Test.YtamaemlhnkabcaaOwnL
import Derived.Deep.RegionHeld3
import Derived.Deep.RegionWith
namespace Go.Proofs.Ytamaemlhnkabcaa.Own
open Go.RowKit Go.Proofs.Ytamaemlhnkabcaa.Crc Go.Proofs.Ytamaemlhnkabcaa.PWireRefuses Go.Proofs.YtamaemlhnkabcaaW.PrintWords Go.Proofs.YtamaemlhnkabcaaW.PrintLast Go.Proofs.YtamaemlhnkabcaaW.PrintMore
set_option linter.unusedVariables false
set_option linter.unusedSimpArgs false

theorem parts_held_short {W : World} {g : Nat} {F : Fr} {ad : Addr} (hk : ¬ F.k = 1) (h : At W g F) (r : ReadsInt W .u8 (some ad) F.bytes.length F.bytes) :
    W.cell? ⟨g, 0, none⟩ = some (.int .u8 F.k) ∧ W.cell? ⟨g, 1, none⟩ = some (.int .u8 F.l) ∧ W.cell? ⟨g, 2, none⟩ = some (.int .u16 F.s) ∧ W.cell? ⟨g, 3, none⟩ = some (.int .u8 F.a) ∧ W.cell? ⟨g, 4, none⟩ = some (.int .u8 F.b) ∧ W.cell? ⟨g, 5, none⟩ = some (.int .u32 F.y) ∧ W.cell? ad = some (.int .u8 (F.k)) ∧ W.cell? ⟨ad.block, ad.off + 1, none⟩ = some (.int .u8 (F.l)) ∧ W.cell? ⟨ad.block, ad.off + 2, none⟩ = some (.int .u8 (F.s / 256)) ∧ W.cell? ⟨ad.block, ad.off + 3, none⟩ = some (.int .u8 (F.s % 256)) := by
  obtain ⟨c0, c1, c2, c3, c4, c5⟩ := h.cells
  rw [bytes_short hk] at r
  exact ⟨c0, c1, c2, c3, c4, c5, reads_first r, reads_next r 0 (by simp) rfl, reads_next r 1 (by simp) rfl, reads_next r 2 (by simp) rfl⟩
set_option maxHeartbeats 4000000 in
set_option maxRecDepth 100000 in
theorem parts_short (k l a b y : Int) (w : World) (F : Fr) (MK : Aside0 (∀ w : World, Calls Try.prog 13 #[.int .u8 k, .int .u8 l, .int .u16 F.s, .int .u8 a, .int .u8 b, .int .u32 y] w fun e w' => e = .returned (.agg #[.int .u8 F.k, .int .u8 F.l, .int .u16 F.s, .int .u8 F.a, .int .u8 F.b, .int .u32 F.y]) ∧ Below w.heap.size w w')) (HW : Aside0 F.wf) (HS : Aside0 (F.sound = true)) (hk : ¬ F.k = 1) :
    Calls Try.prog 5 #[.int .u8 k, .int .u8 l, .int .u16 F.s, .int .u8 a, .int .u8 b, .int .u32 y] w fun e w' => e = .returned (.bool true) ∧ Below w.heap.size w w' := by
  have BL := bytes_len F
  rw [if_neg hk] at BL
  have BL := Aside0.mk BL
  have HK := Aside0.mk hk
  have e1 : (F.k == 1) = false := beq_eq_false_iff_ne.mpr hk
  have e2 : (F.k != 1) = true := bne_iff_ne.mpr hk
  have hw2 := HW.out.2.2.1
  have ew1 : IntKind.u16.wrap (F.s / 256) = F.s / 256 := by rw [w16]; omega
  have ew2 : IntKind.u16.wrap (F.s / 256 * 256) = F.s / 256 * 256 := by rw [w16]; omega
  have ew3 : IntKind.u16.wrap (F.s % 256) = F.s % 256 := by rw [w16]; omega
  have ew4 : IntKind.u16.wrap (F.s / 256 * 256 + F.s % 256) = F.s := by rw [w16]; omega
  have ew5 : IntKind.u8.wrap F.y = F.y % 256 := w8 _
  clear hk hw2
  go_enter Try.func5, Try.ntmps5
  go_wp2_with fail
  refine (MK.out _).mono ?_
  rintro e w1 ⟨rfl, hb⟩
  have B1 := Aside0.mk (below_alloc hb (.cells #[.int .u8 F.k, .int .u8 F.l, .int .u16 F.s, .int .u8 F.a, .int .u8 F.b, .int .u32 F.y] 25))
  have X1 := Aside0.mk (show At (w1.alloc (.cells #[.int .u8 F.k, .int .u8 F.l, .int .u16 F.s, .int .u8 F.a, .int .u8 F.b, .int .u32 F.y] 25)) w1.heap.size F from blk_new _ _)
  clear hb
  go_wp2_with fail
  refine (enc_fr F _ HW.out HS.out).mono ?_
  rintro e w2 ⟨base, v, rfl, R⟩
  obtain ⟨A, c, rfl, hr, hc, hnc⟩ := R.slice
  obtain ⟨ad, rfl, _⟩ := hr.2.2 (by rw [BL.out]; omega)
  have HR := Aside0.mk hr
  have HC := Aside0.mk hc
  have B2 := Aside0.mk (below_then B1.out B1.out.size R.bel)
  have X2 := Aside0.mk (X1.out.below R.bel)
  clear R hr hc hnc
  rw [BL.out]
  go_wp2_with fail
  refine wp_region_held_drew (S := fun W => W.cell? ⟨w1.heap.size, 0, none⟩ = some (.int .u8 F.k) ∧ W.cell? ⟨w1.heap.size, 1, none⟩ = some (.int .u8 F.l) ∧ W.cell? ⟨w1.heap.size, 2, none⟩ = some (.int .u16 F.s) ∧ W.cell? ⟨w1.heap.size, 3, none⟩ = some (.int .u8 F.a) ∧ W.cell? ⟨w1.heap.size, 4, none⟩ = some (.int .u8 F.b) ∧ W.cell? ⟨w1.heap.size, 5, none⟩ = some (.int .u32 F.y) ∧ W.cell? ad = some (.int .u8 (F.k)) ∧ W.cell? ⟨ad.block, ad.off + 1, none⟩ = some (.int .u8 (F.l)) ∧ W.cell? ⟨ad.block, ad.off + 2, none⟩ = some (.int .u8 (F.s / 256)) ∧ W.cell? ⟨ad.block, ad.off + 3, none⟩ = some (.int .u8 (F.s % 256))) (by kernel_rfl) ?_ (fun hHeld => ?_)
  · exact parts_held_short HK.out (At.drew X2.out) (HR.out.below (Below.refl _ _).drew)
  refine wpAnyH_ready (rs := [0]) (by kernel_rfl) (by simp) ?_
  refine AllReadyH.cons rfl (fun K hK => ?_) AllReadyH.nil
  go_simp
  refine (known_calls _).mono ?_
  rintro e w3 ⟨rfl, hb⟩
  have B3 := Aside0.mk (below_then B2.out.drew B2.out.drew.size hb)
  have X3 := Aside0.mk (At.below (At.drew X2.out) hb)
  have HR3 := Aside0.mk ((HR.out.below (Below.refl _ _).drew).below hb)
  clear hb hHeld
  go_wp2_with fail
  refine hK.out _ _ (parts_held_short HK.out X3.out HR3.out) (fun hHeld => ?_)
  clear hK
  try simp only [Act.put, List.setIfInBounds_toArray, List.set_cons_zero, List.set_cons_succ]
  refine wpAnyH_take (i := 1) (v := ?v1) (rfl) (by kernel_rfl) (by kernel_rfl) (by kernel_rfl) (fun _ _ _ h => h) ?y1 (by assumption) ?r1
  case y1 => first | (refine Or.inr ⟨?_, ?_⟩; rfl; rfl) | (refine Or.inl ⟨?_, ?_⟩; rfl; intro w hSw; (try dsimp only at hSw); go_simp; try with_reducible rfl)
  simp only [Act.put, List.setIfInBounds_toArray, List.set_cons_zero, List.set_cons_succ, List.getElem_toArray, List.getElem_cons_succ, List.getElem_cons_zero]
  refine wpAnyH_take (i := 2) (v := ?v2) (rfl) (by kernel_rfl) (by kernel_rfl) (by kernel_rfl) (fun _ _ _ h => h) ?y2 (by assumption) ?r2
  case y2 => first | (refine Or.inr ⟨?_, ?_⟩; rfl; rfl) | (refine Or.inl ⟨?_, ?_⟩; rfl; intro w hSw; (try dsimp only at hSw); go_simp; try with_reducible rfl)
  simp only [Act.put, List.setIfInBounds_toArray, List.set_cons_zero, List.set_cons_succ, List.getElem_toArray, List.getElem_cons_succ, List.getElem_cons_zero]
  refine wpAnyH_take (i := 3) (v := ?v3) (rfl) (by kernel_rfl) (by kernel_rfl) (by kernel_rfl) (fun _ _ _ h => h) ?y3 (by assumption) ?r3
  case y3 => first | (refine Or.inr ⟨?_, ?_⟩; rfl; rfl) | (refine Or.inl ⟨?_, ?_⟩; rfl; intro w hSw; (try dsimp only at hSw); go_simp; try with_reducible rfl)
  simp only [Act.put, List.setIfInBounds_toArray, List.set_cons_zero, List.set_cons_succ, List.getElem_toArray, List.getElem_cons_succ, List.getElem_cons_zero]
  refine wpAnyH_take (i := 4) (v := ?v4) (rfl) (by kernel_rfl) (by kernel_rfl) (by kernel_rfl) (fun _ _ _ h => h) ?y4 (by assumption) ?r4
  case y4 => first | (refine Or.inr ⟨?_, ?_⟩; rfl; rfl) | (refine Or.inl ⟨?_, ?_⟩; rfl; intro w hSw; (try dsimp only at hSw); go_simp; try with_reducible rfl)
  simp only [Act.put, List.setIfInBounds_toArray, List.set_cons_zero, List.set_cons_succ, List.getElem_toArray, List.getElem_cons_succ, List.getElem_cons_zero]
  refine wpAnyH_take (i := 5) (v := ?v5) (rfl) (by kernel_rfl) (by kernel_rfl) (by kernel_rfl) (fun _ _ _ h => h) ?y5 (by assumption) ?r5
  case y5 => first | (refine Or.inr ⟨?_, ?_⟩; rfl; rfl) | (refine Or.inl ⟨?_, ?_⟩; rfl; intro w hSw; (try dsimp only at hSw); go_simp; try with_reducible rfl)
  simp only [Act.put, List.setIfInBounds_toArray, List.set_cons_zero, List.set_cons_succ, List.getElem_toArray, List.getElem_cons_succ, List.getElem_cons_zero]
  refine wpAnyH_take (i := 6) (v := ?v6) (rfl) (by kernel_rfl) (by kernel_rfl) (by kernel_rfl) (fun _ _ _ h => h) ?y6 (by assumption) ?r6
  case y6 => first | (refine Or.inr ⟨?_, ?_⟩; rfl; rfl) | (refine Or.inl ⟨?_, ?_⟩; rfl; intro w hSw; (try dsimp only at hSw); go_simp; try with_reducible rfl)
  simp only [Act.put, List.setIfInBounds_toArray, List.set_cons_zero, List.set_cons_succ, List.getElem_toArray, List.getElem_cons_succ, List.getElem_cons_zero]
  refine wpAnyH_take (i := 7) (v := ?v7) (rfl) (by kernel_rfl) (by kernel_rfl) (by kernel_rfl) (fun _ _ _ h => h) ?y7 (by assumption) ?r7
  case y7 => first | (refine Or.inr ⟨?_, ?_⟩; rfl; rfl) | (refine Or.inl ⟨?_, ?_⟩; rfl; intro w hSw; (try dsimp only at hSw); go_simp; try with_reducible rfl)
  simp only [Act.put, List.setIfInBounds_toArray, List.set_cons_zero, List.set_cons_succ, List.getElem_toArray, List.getElem_cons_succ, List.getElem_cons_zero]
  refine wpAnyH_take (i := 8) (v := ?v8) (rfl) (by kernel_rfl) (by kernel_rfl) (by kernel_rfl) (fun _ _ _ h => h) ?y8 (by assumption) ?r8
  case y8 => first | (refine Or.inr ⟨?_, ?_⟩; rfl; rfl) | (refine Or.inl ⟨?_, ?_⟩; rfl; intro w hSw; (try dsimp only at hSw); go_simp; try with_reducible rfl)
  simp only [Act.put, List.setIfInBounds_toArray, List.set_cons_zero, List.set_cons_succ, List.getElem_toArray, List.getElem_cons_succ, List.getElem_cons_zero]
  refine wpAnyH_take (i := 9) (v := ?v9) (rfl) (by kernel_rfl) (by kernel_rfl) (by kernel_rfl) (fun _ _ _ h => h) ?y9 (by assumption) ?r9
  case y9 => first | (refine Or.inr ⟨?_, ?_⟩; rfl; rfl) | (refine Or.inl ⟨?_, ?_⟩; rfl; intro w hSw; (try dsimp only at hSw); go_simp; try with_reducible rfl)
  simp only [Act.put, List.setIfInBounds_toArray, List.set_cons_zero, List.set_cons_succ, List.getElem_toArray, List.getElem_cons_succ, List.getElem_cons_zero]
  refine wpAnyH_take (i := 10) (v := ?v10) (rfl) (by kernel_rfl) (by kernel_rfl) (by kernel_rfl) (fun _ _ _ h => h) ?y10 (by assumption) ?r10
  case y10 => first | (refine Or.inr ⟨?_, ?_⟩; rfl; rfl) | (refine Or.inl ⟨?_, ?_⟩; rfl; intro w hSw; (try dsimp only at hSw); go_simp; try with_reducible rfl)
  simp only [Act.put, List.setIfInBounds_toArray, List.set_cons_zero, List.set_cons_succ, List.getElem_toArray, List.getElem_cons_succ, List.getElem_cons_zero]
  refine wpAnyH_take (i := 11) (v := ?v11) (rfl) (by kernel_rfl) (by kernel_rfl) (by kernel_rfl) (fun _ _ _ h => h) ?y11 (by assumption) ?r11
  case y11 => first | (refine Or.inr ⟨?_, ?_⟩; rfl; rfl) | (refine Or.inl ⟨?_, ?_⟩; rfl; intro w hSw; (try dsimp only at hSw); go_simp; try with_reducible rfl)
  simp only [Act.put, List.setIfInBounds_toArray, List.set_cons_zero, List.set_cons_succ, List.getElem_toArray, List.getElem_cons_succ, List.getElem_cons_zero]
  refine wpAnyH_take (i := 12) (v := ?v12) (rfl) (by kernel_rfl) (by kernel_rfl) (by kernel_rfl) (fun _ _ _ h => h) ?y12 (by assumption) ?r12
  case y12 => first | (refine Or.inr ⟨?_, ?_⟩; rfl; rfl) | (refine Or.inl ⟨?_, ?_⟩; rfl; intro w hSw; (try dsimp only at hSw); go_simp; try with_reducible rfl)
  simp only [Act.put, List.setIfInBounds_toArray, List.set_cons_zero, List.set_cons_succ, List.getElem_toArray, List.getElem_cons_succ, List.getElem_cons_zero]
  refine wpAnyH_take (i := 13) (v := ?v13) (rfl) (by kernel_rfl) (by kernel_rfl) (by kernel_rfl) (fun _ _ _ h => h) ?y13 (by assumption) ?r13
  case y13 => first | (refine Or.inr ⟨?_, ?_⟩; rfl; rfl) | (refine Or.inl ⟨?_, ?_⟩; rfl; intro w hSw; (try dsimp only at hSw); go_simp; try with_reducible rfl)
  simp only [Act.put, List.setIfInBounds_toArray, List.set_cons_zero, List.set_cons_succ, List.getElem_toArray, List.getElem_cons_succ, List.getElem_cons_zero]
  refine wpAnyH_take (i := 14) (v := ?v14) (rfl) (by kernel_rfl) (by kernel_rfl) (by kernel_rfl) (fun _ _ _ h => h) ?y14 (by assumption) ?r14
  case y14 => first | (refine Or.inr ⟨?_, ?_⟩; rfl; rfl) | (refine Or.inl ⟨?_, ?_⟩; rfl; intro w hSw; (try dsimp only at hSw); go_simp; try with_reducible rfl)
  simp only [Act.put, List.setIfInBounds_toArray, List.set_cons_zero, List.set_cons_succ, List.getElem_toArray, List.getElem_cons_succ, List.getElem_cons_zero]
  refine wpAnyH_take (i := 15) (v := ?v15) (rfl) (by kernel_rfl) (by kernel_rfl) (by kernel_rfl) (fun _ _ _ h => h) ?y15 (by assumption) ?r15
  case y15 => first | (refine Or.inr ⟨?_, ?_⟩; rfl; rfl) | (refine Or.inl ⟨?_, ?_⟩; rfl; intro w hSw; (try dsimp only at hSw); go_simp; try with_reducible rfl)
  simp only [Act.put, List.setIfInBounds_toArray, List.set_cons_zero, List.set_cons_succ, List.getElem_toArray, List.getElem_cons_succ, List.getElem_cons_zero]
  refine wpAnyH_take (i := 16) (v := ?v16) (rfl) (by kernel_rfl) (by kernel_rfl) (by kernel_rfl) (fun _ _ _ h => h) ?y16 (by assumption) ?r16
  case y16 => first | (refine Or.inr ⟨?_, ?_⟩; rfl; rfl) | (refine Or.inl ⟨?_, ?_⟩; rfl; intro w hSw; (try dsimp only at hSw); go_simp; try with_reducible rfl)
  simp only [Act.put, List.setIfInBounds_toArray, List.set_cons_zero, List.set_cons_succ, List.getElem_toArray, List.getElem_cons_succ, List.getElem_cons_zero]
  refine wpAnyH_take (i := 17) (v := ?v17) (rfl) (by kernel_rfl) (by kernel_rfl) (by kernel_rfl) (fun _ _ _ h => h) ?y17 (by assumption) ?r17
  case y17 => first | (refine Or.inr ⟨?_, ?_⟩; rfl; rfl) | (refine Or.inl ⟨?_, ?_⟩; rfl; intro w hSw; (try dsimp only at hSw); go_simp; try with_reducible rfl)
  simp only [Act.put, List.setIfInBounds_toArray, List.set_cons_zero, List.set_cons_succ, List.getElem_toArray, List.getElem_cons_succ, List.getElem_cons_zero]
  refine wpAnyH_take (i := 18) (v := ?v18) (rfl) (by kernel_rfl) (by kernel_rfl) (by kernel_rfl) (fun _ _ _ h => h) ?y18 (by assumption) ?r18
  case y18 => first | (refine Or.inr ⟨?_, ?_⟩; rfl; rfl) | (refine Or.inl ⟨?_, ?_⟩; rfl; intro w hSw; (try dsimp only at hSw); go_simp; try with_reducible rfl)
  simp only [Act.put, List.setIfInBounds_toArray, List.set_cons_zero, List.set_cons_succ, List.getElem_toArray, List.getElem_cons_succ, List.getElem_cons_zero]
  refine wpAnyH_take (i := 19) (v := ?v19) (rfl) (by kernel_rfl) (by kernel_rfl) (by kernel_rfl) (fun _ _ _ h => h) ?y19 (by assumption) ?r19
  case y19 => first | (refine Or.inr ⟨?_, ?_⟩; rfl; rfl) | (refine Or.inl ⟨?_, ?_⟩; rfl; intro w hSw; (try dsimp only at hSw); go_simp; try with_reducible rfl)
  simp only [Act.put, List.setIfInBounds_toArray, List.set_cons_zero, List.set_cons_succ, List.getElem_toArray, List.getElem_cons_succ, List.getElem_cons_zero]
  refine wpAnyH_take (i := 20) (v := ?v20) (rfl) (by kernel_rfl) (by kernel_rfl) (by kernel_rfl) (fun _ _ _ h => h) ?y20 (by assumption) ?r20
  case y20 => first | (refine Or.inr ⟨?_, ?_⟩; rfl; rfl) | (refine Or.inl ⟨?_, ?_⟩; rfl; intro w hSw; (try dsimp only at hSw); go_simp; try with_reducible rfl)
  simp only [Act.put, List.setIfInBounds_toArray, List.set_cons_zero, List.set_cons_succ, List.getElem_toArray, List.getElem_cons_succ, List.getElem_cons_zero]
  refine wpAnyH_take (i := 21) (v := ?v21) (rfl) (by kernel_rfl) (by kernel_rfl) (by kernel_rfl) (fun _ _ _ h => h) ?y21 (by assumption) ?r21
  case y21 => first | (refine Or.inr ⟨?_, ?_⟩; rfl; rfl) | (refine Or.inl ⟨?_, ?_⟩; rfl; intro w hSw; (try dsimp only at hSw); go_simp; try with_reducible rfl)
  simp only [Act.put, List.setIfInBounds_toArray, List.set_cons_zero, List.set_cons_succ, List.getElem_toArray, List.getElem_cons_succ, List.getElem_cons_zero]
  refine wpAnyH_take (i := 22) (v := ?v22) (rfl) (by kernel_rfl) (by kernel_rfl) (by kernel_rfl) (fun _ _ _ h => h) ?y22 (by assumption) ?r22
  case y22 => first | (refine Or.inr ⟨?_, ?_⟩; rfl; rfl) | (refine Or.inl ⟨?_, ?_⟩; rfl; intro w hSw; (try dsimp only at hSw); go_simp; try with_reducible rfl)
  simp only [Act.put, List.setIfInBounds_toArray, List.set_cons_zero, List.set_cons_succ, List.getElem_toArray, List.getElem_cons_succ, List.getElem_cons_zero]
  refine wpAnyH_take (i := 23) (v := ?v23) (rfl) (by kernel_rfl) (by kernel_rfl) (by kernel_rfl) (fun _ _ _ h => h) ?y23 (by assumption) ?r23
  case y23 => first | (refine Or.inr ⟨?_, ?_⟩; rfl; rfl) | (refine Or.inl ⟨?_, ?_⟩; rfl; intro w hSw; (try dsimp only at hSw); go_simp; try with_reducible rfl)
  simp only [Act.put, List.setIfInBounds_toArray, List.set_cons_zero, List.set_cons_succ, List.getElem_toArray, List.getElem_cons_succ, List.getElem_cons_zero]
  refine wpAnyH_take (i := 24) (v := ?v24) (rfl) (by kernel_rfl) (by kernel_rfl) (by kernel_rfl) (fun _ _ _ h => h) ?y24 (by assumption) ?r24
  case y24 => first | (refine Or.inr ⟨?_, ?_⟩; rfl; rfl) | (refine Or.inl ⟨?_, ?_⟩; rfl; intro w hSw; (try dsimp only at hSw); go_simp; try with_reducible rfl)
  simp only [Act.put, List.setIfInBounds_toArray, List.set_cons_zero, List.set_cons_succ, List.getElem_toArray, List.getElem_cons_succ, List.getElem_cons_zero]
  refine wpAnyH_take (i := 25) (v := ?v25) (rfl) (by kernel_rfl) (by kernel_rfl) (by kernel_rfl) (fun _ _ _ h => h) ?y25 (by assumption) ?r25
  case y25 => first | (refine Or.inr ⟨?_, ?_⟩; rfl; rfl) | (refine Or.inl ⟨?_, ?_⟩; rfl; intro w hSw; (try dsimp only at hSw); go_simp; try with_reducible rfl)
  simp only [Act.put, List.setIfInBounds_toArray, List.set_cons_zero, List.set_cons_succ, List.getElem_toArray, List.getElem_cons_succ, List.getElem_cons_zero]
  refine wpAnyH_take (i := 26) (v := ?v26) (rfl) (by kernel_rfl) (by kernel_rfl) (by kernel_rfl) (fun _ _ _ h => h) ?y26 (by assumption) ?r26
  case y26 => first | (refine Or.inr ⟨?_, ?_⟩; rfl; rfl) | (refine Or.inl ⟨?_, ?_⟩; rfl; intro w hSw; (try dsimp only at hSw); go_simp; try with_reducible rfl)
  simp only [Act.put, List.setIfInBounds_toArray, List.set_cons_zero, List.set_cons_succ, List.getElem_toArray, List.getElem_cons_succ, List.getElem_cons_zero]
  refine wpAnyH_take (i := 27) (v := ?v27) (rfl) (by kernel_rfl) (by kernel_rfl) (by kernel_rfl) (fun _ _ _ h => h) ?y27 (by assumption) ?r27
  case y27 => first | (refine Or.inr ⟨?_, ?_⟩; rfl; rfl) | (refine Or.inl ⟨?_, ?_⟩; rfl; intro w hSw; (try dsimp only at hSw); go_simp; try with_reducible rfl)
  simp only [Act.put, List.setIfInBounds_toArray, List.set_cons_zero, List.set_cons_succ, List.getElem_toArray, List.getElem_cons_succ, List.getElem_cons_zero]
  refine wpAnyH_take (i := 28) (v := ?v28) (rfl) (by kernel_rfl) (by kernel_rfl) (by kernel_rfl) (fun _ _ _ h => h) ?y28 (by assumption) ?r28
  case y28 => first | (refine Or.inr ⟨?_, ?_⟩; rfl; rfl) | (refine Or.inl ⟨?_, ?_⟩; rfl; intro w hSw; (try dsimp only at hSw); go_simp; try with_reducible rfl)
  simp only [Act.put, List.setIfInBounds_toArray, List.set_cons_zero, List.set_cons_succ, List.getElem_toArray, List.getElem_cons_succ, List.getElem_cons_zero]
  refine wpAnyH_take (i := 29) (v := ?v29) (rfl) (by kernel_rfl) (by kernel_rfl) (by kernel_rfl) (fun _ _ _ h => h) ?y29 (by assumption) ?r29
  case y29 => first | (refine Or.inr ⟨?_, ?_⟩; rfl; rfl) | (refine Or.inl ⟨?_, ?_⟩; rfl; intro w hSw; (try dsimp only at hSw); go_simp; try with_reducible rfl)
  simp only [Act.put, List.setIfInBounds_toArray, List.set_cons_zero, List.set_cons_succ, List.getElem_toArray, List.getElem_cons_succ, List.getElem_cons_zero]
  refine wpAnyH_take (i := 30) (v := ?v30) (rfl) (by kernel_rfl) (by kernel_rfl) (by kernel_rfl) (fun _ _ _ h => h) ?y30 (by assumption) ?r30
  case y30 => first | (refine Or.inr ⟨?_, ?_⟩; rfl; rfl) | (refine Or.inl ⟨?_, ?_⟩; rfl; intro w hSw; (try dsimp only at hSw); go_simp; try with_reducible rfl)
  simp only [Act.put, List.setIfInBounds_toArray, List.set_cons_zero, List.set_cons_succ, List.getElem_toArray, List.getElem_cons_succ, List.getElem_cons_zero]
  refine wpAnyH_take (i := 31) (v := ?v31) (rfl) (by kernel_rfl) (by kernel_rfl) (by kernel_rfl) (fun _ _ _ h => h) ?y31 (by assumption) ?r31
  case y31 => first | (refine Or.inr ⟨?_, ?_⟩; rfl; rfl) | (refine Or.inl ⟨?_, ?_⟩; rfl; intro w hSw; (try dsimp only at hSw); go_simp; try with_reducible rfl)
  simp only [Act.put, List.setIfInBounds_toArray, List.set_cons_zero, List.set_cons_succ, List.getElem_toArray, List.getElem_cons_succ, List.getElem_cons_zero]
  refine wpAnyH_take (i := 32) (v := ?v32) (rfl) (by kernel_rfl) (by kernel_rfl) (by kernel_rfl) (fun _ _ _ h => h) ?y32 (by assumption) ?r32
  case y32 => first | (refine Or.inr ⟨?_, ?_⟩; rfl; rfl) | (refine Or.inl ⟨?_, ?_⟩; rfl; intro w hSw; (try dsimp only at hSw); go_simp; try with_reducible rfl)
  simp only [Act.put, List.setIfInBounds_toArray, List.set_cons_zero, List.set_cons_succ, List.getElem_toArray, List.getElem_cons_succ, List.getElem_cons_zero]
  refine wpAnyH_take (i := 33) (v := ?v33) (rfl) (by kernel_rfl) (by kernel_rfl) (by kernel_rfl) (fun _ _ _ h => h) ?y33 (by assumption) ?r33
  case y33 => first | (refine Or.inr ⟨?_, ?_⟩; rfl; rfl) | (refine Or.inl ⟨?_, ?_⟩; rfl; intro w hSw; (try dsimp only at hSw); go_simp; try with_reducible rfl)
  simp only [Act.put, List.setIfInBounds_toArray, List.set_cons_zero, List.set_cons_succ, List.getElem_toArray, List.getElem_cons_succ, List.getElem_cons_zero]
  refine wpAnyH_take (i := 34) (v := ?v34) (rfl) (by kernel_rfl) (by kernel_rfl) (by kernel_rfl) (fun _ _ _ h => h) ?y34 (by assumption) ?r34
  case y34 => first | (refine Or.inr ⟨?_, ?_⟩; rfl; rfl) | (refine Or.inl ⟨?_, ?_⟩; rfl; intro w hSw; (try dsimp only at hSw); go_simp; try with_reducible rfl)
  simp only [Act.put, List.setIfInBounds_toArray, List.set_cons_zero, List.set_cons_succ, List.getElem_toArray, List.getElem_cons_succ, List.getElem_cons_zero]
  refine wpAnyH_take (i := 35) (v := ?v35) (rfl) (by kernel_rfl) (by kernel_rfl) (by kernel_rfl) (fun _ _ _ h => h) ?y35 (by assumption) ?r35
  case y35 => first | (refine Or.inr ⟨?_, ?_⟩; rfl; rfl) | (refine Or.inl ⟨?_, ?_⟩; rfl; intro w hSw; (try dsimp only at hSw); go_simp; try with_reducible rfl)
  simp only [Act.put, List.setIfInBounds_toArray, List.set_cons_zero, List.set_cons_succ, List.getElem_toArray, List.getElem_cons_succ, List.getElem_cons_zero]
  refine wpAnyH_take (i := 36) (v := ?v36) (rfl) (by kernel_rfl) (by kernel_rfl) (by kernel_rfl) (fun _ _ _ h => h) ?y36 (by assumption) ?r36
  case y36 => first | (refine Or.inr ⟨?_, ?_⟩; rfl; rfl) | (refine Or.inl ⟨?_, ?_⟩; rfl; intro w hSw; (try dsimp only at hSw); go_simp; try with_reducible rfl)
  simp only [Act.put, List.setIfInBounds_toArray, List.set_cons_zero, List.set_cons_succ, List.getElem_toArray, List.getElem_cons_succ, List.getElem_cons_zero]
  refine wpAnyH_take (i := 37) (v := ?v37) (rfl) (by kernel_rfl) (by kernel_rfl) (by kernel_rfl) (fun _ _ _ h => h) ?y37 (by assumption) ?r37
  case y37 => first | (refine Or.inr ⟨?_, ?_⟩; rfl; rfl) | (refine Or.inl ⟨?_, ?_⟩; rfl; intro w hSw; (try dsimp only at hSw); go_simp; try with_reducible rfl)
  simp only [Act.put, List.setIfInBounds_toArray, List.set_cons_zero, List.set_cons_succ, List.getElem_toArray, List.getElem_cons_succ, List.getElem_cons_zero]
  refine wpAnyH_take (i := 38) (v := ?v38) (rfl) (by kernel_rfl) (by kernel_rfl) (by kernel_rfl) (fun _ _ _ h => h) ?y38 (by assumption) ?r38
  case y38 => first | (refine Or.inr ⟨?_, ?_⟩; rfl; rfl) | (refine Or.inl ⟨?_, ?_⟩; rfl; intro w hSw; (try dsimp only at hSw); go_simp; try with_reducible rfl)
  simp only [Act.put, List.setIfInBounds_toArray, List.set_cons_zero, List.set_cons_succ, List.getElem_toArray, List.getElem_cons_succ, List.getElem_cons_zero]
  refine wpAnyH_take (i := 39) (v := ?v39) (rfl) (by kernel_rfl) (by kernel_rfl) (by kernel_rfl) (fun _ _ _ h => h) ?y39 (by assumption) ?r39
  case y39 => first | (refine Or.inr ⟨?_, ?_⟩; rfl; rfl) | (refine Or.inl ⟨?_, ?_⟩; rfl; intro w hSw; (try dsimp only at hSw); go_simp; try with_reducible rfl)
  simp only [Act.put, List.setIfInBounds_toArray, List.set_cons_zero, List.set_cons_succ, List.getElem_toArray, List.getElem_cons_succ, List.getElem_cons_zero]
  refine wpAnyH_take (i := 40) (v := ?v40) (rfl) (by kernel_rfl) (by kernel_rfl) (by kernel_rfl) (fun _ _ _ h => h) ?y40 (by assumption) ?r40
  case y40 => first | (refine Or.inr ⟨?_, ?_⟩; rfl; rfl) | (refine Or.inl ⟨?_, ?_⟩; rfl; intro w hSw; (try dsimp only at hSw); go_simp; try with_reducible rfl)
  simp only [Act.put, List.setIfInBounds_toArray, List.set_cons_zero, List.set_cons_succ, List.getElem_toArray, List.getElem_cons_succ, List.getElem_cons_zero]
  refine wpAnyH_take (i := 41) (v := ?v41) (rfl) (by kernel_rfl) (by kernel_rfl) (by kernel_rfl) (fun _ _ _ h => h) ?y41 (by assumption) ?r41
  case y41 => first | (refine Or.inr ⟨?_, ?_⟩; rfl; rfl) | (refine Or.inl ⟨?_, ?_⟩; rfl; intro w hSw; (try dsimp only at hSw); go_simp; try with_reducible rfl)
  simp only [Act.put, List.setIfInBounds_toArray, List.set_cons_zero, List.set_cons_succ, List.getElem_toArray, List.getElem_cons_succ, List.getElem_cons_zero]
  refine wpAnyH_take (i := 42) (v := ?v42) (rfl) (by kernel_rfl) (by kernel_rfl) (by kernel_rfl) (fun _ _ _ h => h) ?y42 (by assumption) ?r42
  case y42 => first | (refine Or.inr ⟨?_, ?_⟩; rfl; rfl) | (refine Or.inl ⟨?_, ?_⟩; rfl; intro w hSw; (try dsimp only at hSw); go_simp; try with_reducible rfl)
  simp only [Act.put, List.setIfInBounds_toArray, List.set_cons_zero, List.set_cons_succ, List.getElem_toArray, List.getElem_cons_succ, List.getElem_cons_zero]
  refine wpAnyH_take (i := 43) (v := ?v43) (rfl) (by kernel_rfl) (by kernel_rfl) (by kernel_rfl) (fun _ _ _ h => h) ?y43 (by assumption) ?r43
  case y43 => first | (refine Or.inr ⟨?_, ?_⟩; rfl; rfl) | (refine Or.inl ⟨?_, ?_⟩; rfl; intro w hSw; (try dsimp only at hSw); go_simp; try with_reducible rfl)
  simp only [Act.put, List.setIfInBounds_toArray, List.set_cons_zero, List.set_cons_succ, List.getElem_toArray, List.getElem_cons_succ, List.getElem_cons_zero]
  refine wpAnyH_take (i := 44) (v := ?v44) (rfl) (by kernel_rfl) (by kernel_rfl) (by kernel_rfl) (fun _ _ _ h => h) ?y44 (by assumption) ?r44
  case y44 => first | (refine Or.inr ⟨?_, ?_⟩; rfl; rfl) | (refine Or.inl ⟨?_, ?_⟩; rfl; intro w hSw; (try dsimp only at hSw); go_simp; try with_reducible rfl)
  simp only [Act.put, List.setIfInBounds_toArray, List.set_cons_zero, List.set_cons_succ, List.getElem_toArray, List.getElem_cons_succ, List.getElem_cons_zero]
  refine wpAnyH_take (i := 45) (v := ?v45) (rfl) (by kernel_rfl) (by kernel_rfl) (by kernel_rfl) (fun _ _ _ h => h) ?y45 (by assumption) ?r45
  case y45 => first | (refine Or.inr ⟨?_, ?_⟩; rfl; rfl) | (refine Or.inl ⟨?_, ?_⟩; rfl; intro w hSw; (try dsimp only at hSw); go_simp; try with_reducible rfl)
  simp only [Act.put, List.setIfInBounds_toArray, List.set_cons_zero, List.set_cons_succ, List.getElem_toArray, List.getElem_cons_succ, List.getElem_cons_zero]
  refine wpAnyH_take (i := 46) (v := ?v46) (rfl) (by kernel_rfl) (by kernel_rfl) (by kernel_rfl) (fun _ _ _ h => h) ?y46 (by assumption) ?r46
  case y46 => first | (refine Or.inr ⟨?_, ?_⟩; rfl; rfl) | (refine Or.inl ⟨?_, ?_⟩; rfl; intro w hSw; (try dsimp only at hSw); go_simp; try with_reducible rfl)
  simp only [Act.put, List.setIfInBounds_toArray, List.set_cons_zero, List.set_cons_succ, List.getElem_toArray, List.getElem_cons_succ, List.getElem_cons_zero]
  refine wpAnyH_take (i := 47) (v := ?v47) (rfl) (by kernel_rfl) (by kernel_rfl) (by kernel_rfl) (fun _ _ _ h => h) ?y47 (by assumption) ?r47
  case y47 => first | (refine Or.inr ⟨?_, ?_⟩; rfl; rfl) | (refine Or.inl ⟨?_, ?_⟩; rfl; intro w hSw; (try dsimp only at hSw); go_simp; try with_reducible rfl)
  simp only [Act.put, List.setIfInBounds_toArray, List.set_cons_zero, List.set_cons_succ, List.getElem_toArray, List.getElem_cons_succ, List.getElem_cons_zero]
  refine wpAnyH_take (i := 48) (v := ?v48) (rfl) (by kernel_rfl) (by kernel_rfl) (by kernel_rfl) (fun _ _ _ h => h) ?y48 (by assumption) ?r48
  case y48 => first | (refine Or.inr ⟨?_, ?_⟩; rfl; rfl) | (refine Or.inl ⟨?_, ?_⟩; rfl; intro w hSw; (try dsimp only at hSw); go_simp; try with_reducible rfl)
  simp only [Act.put, List.setIfInBounds_toArray, List.set_cons_zero, List.set_cons_succ, List.getElem_toArray, List.getElem_cons_succ, List.getElem_cons_zero]
  refine wpAnyH_take (i := 49) (v := ?v49) (rfl) (by kernel_rfl) (by kernel_rfl) (by kernel_rfl) (fun _ _ _ h => h) ?y49 (by assumption) ?r49
  case y49 => first | (refine Or.inr ⟨?_, ?_⟩; rfl; rfl) | (refine Or.inl ⟨?_, ?_⟩; rfl; intro w hSw; (try dsimp only at hSw); go_simp; try with_reducible rfl)
  simp only [Act.put, List.setIfInBounds_toArray, List.set_cons_zero, List.set_cons_succ, List.getElem_toArray, List.getElem_cons_succ, List.getElem_cons_zero]
  refine wpAnyH_take (i := 50) (v := ?v50) (rfl) (by kernel_rfl) (by kernel_rfl) (by kernel_rfl) (fun _ _ _ h => h) ?y50 (by assumption) ?r50
  case y50 => first | (refine Or.inr ⟨?_, ?_⟩; rfl; rfl) | (refine Or.inl ⟨?_, ?_⟩; rfl; intro w hSw; (try dsimp only at hSw); go_simp; try with_reducible rfl)
  simp only [Act.put, List.setIfInBounds_toArray, List.set_cons_zero, List.set_cons_succ, List.getElem_toArray, List.getElem_cons_succ, List.getElem_cons_zero]
  refine wpAnyH_take (i := 51) (v := ?v51) (rfl) (by kernel_rfl) (by kernel_rfl) (by kernel_rfl) (fun _ _ _ h => h) ?y51 (by assumption) ?r51
  case y51 => first | (refine Or.inr ⟨?_, ?_⟩; rfl; rfl) | (refine Or.inl ⟨?_, ?_⟩; rfl; intro w hSw; (try dsimp only at hSw); go_simp; try with_reducible rfl)
  simp only [Act.put, List.setIfInBounds_toArray, List.set_cons_zero, List.set_cons_succ, List.getElem_toArray, List.getElem_cons_succ, List.getElem_cons_zero]
  refine wpAnyH_take (i := 52) (v := ?v52) (rfl) (by kernel_rfl) (by kernel_rfl) (by kernel_rfl) (fun _ _ _ h => h) ?y52 (by assumption) ?r52
  case y52 => first | (refine Or.inr ⟨?_, ?_⟩; rfl; rfl) | (refine Or.inl ⟨?_, ?_⟩; rfl; intro w hSw; (try dsimp only at hSw); go_simp; try with_reducible rfl)
  simp only [Act.put, List.setIfInBounds_toArray, List.set_cons_zero, List.set_cons_succ, List.getElem_toArray, List.getElem_cons_succ, List.getElem_cons_zero]
  refine wpAnyH_take (i := 53) (v := ?v53) (rfl) (by kernel_rfl) (by kernel_rfl) (by kernel_rfl) (fun _ _ _ h => h) ?y53 (by assumption) ?r53
  case y53 => first | (refine Or.inr ⟨?_, ?_⟩; rfl; rfl) | (refine Or.inl ⟨?_, ?_⟩; rfl; intro w hSw; (try dsimp only at hSw); go_simp; try with_reducible rfl)
  simp only [Act.put, List.setIfInBounds_toArray, List.set_cons_zero, List.set_cons_succ, List.getElem_toArray, List.getElem_cons_succ, List.getElem_cons_zero]
  refine wpAnyH_take (i := 54) (v := ?v54) (rfl) (by kernel_rfl) (by kernel_rfl) (by kernel_rfl) (fun _ _ _ h => h) ?y54 (by assumption) ?r54
  case y54 => first | (refine Or.inr ⟨?_, ?_⟩; rfl; rfl) | (refine Or.inl ⟨?_, ?_⟩; rfl; intro w hSw; (try dsimp only at hSw); go_simp; try with_reducible rfl)
  simp only [Act.put, List.setIfInBounds_toArray, List.set_cons_zero, List.set_cons_succ, List.getElem_toArray, List.getElem_cons_succ, List.getElem_cons_zero]
  refine wpAnyH_take (i := 55) (v := ?v55) (rfl) (by kernel_rfl) (by kernel_rfl) (by kernel_rfl) (fun _ _ _ h => h) ?y55 (by assumption) ?r55
  case y55 => first | (refine Or.inr ⟨?_, ?_⟩; rfl; rfl) | (refine Or.inl ⟨?_, ?_⟩; rfl; intro w hSw; (try dsimp only at hSw); go_simp; try with_reducible rfl)
  simp only [Act.put, List.setIfInBounds_toArray, List.set_cons_zero, List.set_cons_succ, List.getElem_toArray, List.getElem_cons_succ, List.getElem_cons_zero]
  refine wpAnyH_take (i := 56) (v := ?v56) (rfl) (by kernel_rfl) (by kernel_rfl) (by kernel_rfl) (fun _ _ _ h => h) ?y56 (by assumption) ?r56
  case y56 => first | (refine Or.inr ⟨?_, ?_⟩; rfl; rfl) | (refine Or.inl ⟨?_, ?_⟩; rfl; intro w hSw; (try dsimp only at hSw); go_simp; try with_reducible rfl)
  simp only [Act.put, List.setIfInBounds_toArray, List.set_cons_zero, List.set_cons_succ, List.getElem_toArray, List.getElem_cons_succ, List.getElem_cons_zero]
  refine wpAnyH_take (i := 57) (v := ?v57) (rfl) (by kernel_rfl) (by kernel_rfl) (by kernel_rfl) (fun _ _ _ h => h) ?y57 (by assumption) ?r57
  case y57 => first | (refine Or.inr ⟨?_, ?_⟩; rfl; rfl) | (refine Or.inl ⟨?_, ?_⟩; rfl; intro w hSw; (try dsimp only at hSw); go_simp; try with_reducible rfl)
  simp only [Act.put, List.setIfInBounds_toArray, List.set_cons_zero, List.set_cons_succ, List.getElem_toArray, List.getElem_cons_succ, List.getElem_cons_zero]
  refine wpAnyH_take (i := 58) (v := ?v58) (rfl) (by kernel_rfl) (by kernel_rfl) (by kernel_rfl) (fun _ _ _ h => h) ?y58 (by assumption) ?r58
  case y58 => first | (refine Or.inr ⟨?_, ?_⟩; rfl; rfl) | (refine Or.inl ⟨?_, ?_⟩; rfl; intro w hSw; (try dsimp only at hSw); go_simp; try with_reducible rfl)
  simp only [Act.put, List.setIfInBounds_toArray, List.set_cons_zero, List.set_cons_succ, List.getElem_toArray, List.getElem_cons_succ, List.getElem_cons_zero]
  refine wpAnyH_take (i := 59) (v := ?v59) (rfl) (by kernel_rfl) (by kernel_rfl) (by kernel_rfl) (fun _ _ _ h => h) ?y59 (by assumption) ?r59
  case y59 => first | (refine Or.inr ⟨?_, ?_⟩; rfl; rfl) | (refine Or.inl ⟨?_, ?_⟩; rfl; intro w hSw; (try dsimp only at hSw); go_simp; try with_reducible rfl)
  simp only [Act.put, List.setIfInBounds_toArray, List.set_cons_zero, List.set_cons_succ, List.getElem_toArray, List.getElem_cons_succ, List.getElem_cons_zero]
  refine wpAnyH_take (i := 60) (v := ?v60) (rfl) (by kernel_rfl) (by kernel_rfl) (by kernel_rfl) (fun _ _ _ h => h) ?y60 (by assumption) ?r60
  case y60 => first | (refine Or.inr ⟨?_, ?_⟩; rfl; rfl) | (refine Or.inl ⟨?_, ?_⟩; rfl; intro w hSw; (try dsimp only at hSw); go_simp; try with_reducible rfl)
  simp only [Act.put, List.setIfInBounds_toArray, List.set_cons_zero, List.set_cons_succ, List.getElem_toArray, List.getElem_cons_succ, List.getElem_cons_zero]
  refine wpAnyH_done (by kernel_rfl) ?_ _
  clear hHeld
  go_wp2
  go_ret
  exact ⟨rfl, B3.out⟩

theorem parts_held_long {W : World} {g : Nat} {F : Fr} {ad : Addr} (hk : F.k = 1) (h : At W g F) (r : ReadsInt W .u8 (some ad) F.bytes.length F.bytes) :
    W.cell? ⟨g, 0, none⟩ = some (.int .u8 F.k) ∧ W.cell? ⟨g, 1, none⟩ = some (.int .u8 F.l) ∧ W.cell? ⟨g, 2, none⟩ = some (.int .u16 F.s) ∧ W.cell? ⟨g, 3, none⟩ = some (.int .u8 F.a) ∧ W.cell? ⟨g, 4, none⟩ = some (.int .u8 F.b) ∧ W.cell? ⟨g, 5, none⟩ = some (.int .u32 F.y) ∧ W.cell? ad = some (.int .u8 (F.k)) ∧ W.cell? ⟨ad.block, ad.off + 1, none⟩ = some (.int .u8 (F.l)) ∧ W.cell? ⟨ad.block, ad.off + 2, none⟩ = some (.int .u8 (F.s / 256)) ∧ W.cell? ⟨ad.block, ad.off + 3, none⟩ = some (.int .u8 (F.s % 256)) ∧ W.cell? ⟨ad.block, ad.off + 4, none⟩ = some (.int .u8 (F.a)) ∧ W.cell? ⟨ad.block, ad.off + 5, none⟩ = some (.int .u8 (F.b)) ∧ W.cell? ⟨ad.block, ad.off + 9, none⟩ = some (.int .u8 (F.y % 256)) := by
  obtain ⟨c0, c1, c2, c3, c4, c5⟩ := h.cells
  rw [bytes_long hk] at r
  exact ⟨c0, c1, c2, c3, c4, c5, reads_first r, reads_next r 0 (by simp) rfl, reads_next r 1 (by simp) rfl, reads_next r 2 (by simp) rfl, reads_next r 3 (by simp) rfl, reads_next r 4 (by simp) rfl, reads_next r 8 (by simp) rfl⟩
set_option maxHeartbeats 4000000 in
set_option maxRecDepth 100000 in
theorem parts_long (k l a b : Int) (w : World) (F : Fr) (MK : Aside0 (∀ w : World, Calls Try.prog 13 #[.int .u8 k, .int .u8 l, .int .u16 F.s, .int .u8 a, .int .u8 b, .int .u32 F.y] w fun e w' => e = .returned (.agg #[.int .u8 F.k, .int .u8 F.l, .int .u16 F.s, .int .u8 F.a, .int .u8 F.b, .int .u32 F.y]) ∧ Below w.heap.size w w')) (HW : Aside0 F.wf) (HS : Aside0 (F.sound = true)) (hk : F.k = 1) :
    Calls Try.prog 5 #[.int .u8 k, .int .u8 l, .int .u16 F.s, .int .u8 a, .int .u8 b, .int .u32 F.y] w fun e w' => e = .returned (.bool true) ∧ Below w.heap.size w w' := by
  have BL := bytes_len F
  rw [if_pos hk] at BL
  have BL := Aside0.mk BL
  have HK := Aside0.mk hk
  have e1 : (F.k == 1) = true := beq_iff_eq.mpr hk
  have e2 : (F.k != 1) = false := bne_eq_false_iff_eq.mpr hk
  have hw2 := HW.out.2.2.1
  have ew1 : IntKind.u16.wrap (F.s / 256) = F.s / 256 := by rw [w16]; omega
  have ew2 : IntKind.u16.wrap (F.s / 256 * 256) = F.s / 256 * 256 := by rw [w16]; omega
  have ew3 : IntKind.u16.wrap (F.s % 256) = F.s % 256 := by rw [w16]; omega
  have ew4 : IntKind.u16.wrap (F.s / 256 * 256 + F.s % 256) = F.s := by rw [w16]; omega
  have ew5 : IntKind.u8.wrap F.y = F.y % 256 := w8 _
  clear hk hw2
  go_enter Try.func5, Try.ntmps5
  go_wp2_with fail
  refine (MK.out _).mono ?_
  rintro e w1 ⟨rfl, hb⟩
  have B1 := Aside0.mk (below_alloc hb (.cells #[.int .u8 F.k, .int .u8 F.l, .int .u16 F.s, .int .u8 F.a, .int .u8 F.b, .int .u32 F.y] 25))
  have X1 := Aside0.mk (show At (w1.alloc (.cells #[.int .u8 F.k, .int .u8 F.l, .int .u16 F.s, .int .u8 F.a, .int .u8 F.b, .int .u32 F.y] 25)) w1.heap.size F from blk_new _ _)
  clear hb
  go_wp2_with fail
  refine (enc_fr F _ HW.out HS.out).mono ?_
  rintro e w2 ⟨base, v, rfl, R⟩
  obtain ⟨A, c, rfl, hr, hc, hnc⟩ := R.slice
  obtain ⟨ad, rfl, _⟩ := hr.2.2 (by rw [BL.out]; omega)
  have HR := Aside0.mk hr
  have HC := Aside0.mk hc
  have B2 := Aside0.mk (below_then B1.out B1.out.size R.bel)
  have X2 := Aside0.mk (X1.out.below R.bel)
  clear R hr hc hnc
  rw [BL.out]
  go_wp2_with fail
  refine wp_region_held_drew (S := fun W => W.cell? ⟨w1.heap.size, 0, none⟩ = some (.int .u8 F.k) ∧ W.cell? ⟨w1.heap.size, 1, none⟩ = some (.int .u8 F.l) ∧ W.cell? ⟨w1.heap.size, 2, none⟩ = some (.int .u16 F.s) ∧ W.cell? ⟨w1.heap.size, 3, none⟩ = some (.int .u8 F.a) ∧ W.cell? ⟨w1.heap.size, 4, none⟩ = some (.int .u8 F.b) ∧ W.cell? ⟨w1.heap.size, 5, none⟩ = some (.int .u32 F.y) ∧ W.cell? ad = some (.int .u8 (F.k)) ∧ W.cell? ⟨ad.block, ad.off + 1, none⟩ = some (.int .u8 (F.l)) ∧ W.cell? ⟨ad.block, ad.off + 2, none⟩ = some (.int .u8 (F.s / 256)) ∧ W.cell? ⟨ad.block, ad.off + 3, none⟩ = some (.int .u8 (F.s % 256)) ∧ W.cell? ⟨ad.block, ad.off + 4, none⟩ = some (.int .u8 (F.a)) ∧ W.cell? ⟨ad.block, ad.off + 5, none⟩ = some (.int .u8 (F.b)) ∧ W.cell? ⟨ad.block, ad.off + 9, none⟩ = some (.int .u8 (F.y % 256))) (by kernel_rfl) ?_ (fun hHeld => ?_)
  · exact parts_held_long HK.out (At.drew X2.out) (HR.out.below (Below.refl _ _).drew)
  refine wpAnyH_ready (rs := [0]) (by kernel_rfl) (by simp) ?_
  refine AllReadyH.cons rfl (fun K hK => ?_) AllReadyH.nil
  go_simp
  refine (known_calls _).mono ?_
  rintro e w3 ⟨rfl, hb⟩
  have B3 := Aside0.mk (below_then B2.out.drew B2.out.drew.size hb)
  have X3 := Aside0.mk (At.below (At.drew X2.out) hb)
  have HR3 := Aside0.mk ((HR.out.below (Below.refl _ _).drew).below hb)
  clear hb hHeld
  go_wp2_with fail
  refine hK.out _ _ (parts_held_long HK.out X3.out HR3.out) (fun hHeld => ?_)
  clear hK
  try simp only [Act.put, List.setIfInBounds_toArray, List.set_cons_zero, List.set_cons_succ]
  refine wpAnyH_take (i := 1) (v := ?v1) (rfl) (by kernel_rfl) (by kernel_rfl) (by kernel_rfl) (fun _ _ _ h => h) ?y1 (by assumption) ?r1
  case y1 => first | (refine Or.inr ⟨?_, ?_⟩; rfl; rfl) | (refine Or.inl ⟨?_, ?_⟩; rfl; intro w hSw; (try dsimp only at hSw); go_simp; try with_reducible rfl)
  simp only [Act.put, List.setIfInBounds_toArray, List.set_cons_zero, List.set_cons_succ, List.getElem_toArray, List.getElem_cons_succ, List.getElem_cons_zero]
  refine wpAnyH_take (i := 2) (v := ?v2) (rfl) (by kernel_rfl) (by kernel_rfl) (by kernel_rfl) (fun _ _ _ h => h) ?y2 (by assumption) ?r2
  case y2 => first | (refine Or.inr ⟨?_, ?_⟩; rfl; rfl) | (refine Or.inl ⟨?_, ?_⟩; rfl; intro w hSw; (try dsimp only at hSw); go_simp; try with_reducible rfl)
  simp only [Act.put, List.setIfInBounds_toArray, List.set_cons_zero, List.set_cons_succ, List.getElem_toArray, List.getElem_cons_succ, List.getElem_cons_zero]
  refine wpAnyH_take (i := 3) (v := ?v3) (rfl) (by kernel_rfl) (by kernel_rfl) (by kernel_rfl) (fun _ _ _ h => h) ?y3 (by assumption) ?r3
  case y3 => first | (refine Or.inr ⟨?_, ?_⟩; rfl; rfl) | (refine Or.inl ⟨?_, ?_⟩; rfl; intro w hSw; (try dsimp only at hSw); go_simp; try with_reducible rfl)
  simp only [Act.put, List.setIfInBounds_toArray, List.set_cons_zero, List.set_cons_succ, List.getElem_toArray, List.getElem_cons_succ, List.getElem_cons_zero]
  refine wpAnyH_take (i := 4) (v := ?v4) (rfl) (by kernel_rfl) (by kernel_rfl) (by kernel_rfl) (fun _ _ _ h => h) ?y4 (by assumption) ?r4
  case y4 => first | (refine Or.inr ⟨?_, ?_⟩; rfl; rfl) | (refine Or.inl ⟨?_, ?_⟩; rfl; intro w hSw; (try dsimp only at hSw); go_simp; try with_reducible rfl)
  simp only [Act.put, List.setIfInBounds_toArray, List.set_cons_zero, List.set_cons_succ, List.getElem_toArray, List.getElem_cons_succ, List.getElem_cons_zero]
  refine wpAnyH_take (i := 5) (v := ?v5) (rfl) (by kernel_rfl) (by kernel_rfl) (by kernel_rfl) (fun _ _ _ h => h) ?y5 (by assumption) ?r5
  case y5 => first | (refine Or.inr ⟨?_, ?_⟩; rfl; rfl) | (refine Or.inl ⟨?_, ?_⟩; rfl; intro w hSw; (try dsimp only at hSw); go_simp; try with_reducible rfl)
  simp only [Act.put, List.setIfInBounds_toArray, List.set_cons_zero, List.set_cons_succ, List.getElem_toArray, List.getElem_cons_succ, List.getElem_cons_zero]
  refine wpAnyH_take (i := 6) (v := ?v6) (rfl) (by kernel_rfl) (by kernel_rfl) (by kernel_rfl) (fun _ _ _ h => h) ?y6 (by assumption) ?r6
  case y6 => first | (refine Or.inr ⟨?_, ?_⟩; rfl; rfl) | (refine Or.inl ⟨?_, ?_⟩; rfl; intro w hSw; (try dsimp only at hSw); go_simp; try with_reducible rfl)
  simp only [Act.put, List.setIfInBounds_toArray, List.set_cons_zero, List.set_cons_succ, List.getElem_toArray, List.getElem_cons_succ, List.getElem_cons_zero]
  refine wpAnyH_take (i := 7) (v := ?v7) (rfl) (by kernel_rfl) (by kernel_rfl) (by kernel_rfl) (fun _ _ _ h => h) ?y7 (by assumption) ?r7
  case y7 => first | (refine Or.inr ⟨?_, ?_⟩; rfl; rfl) | (refine Or.inl ⟨?_, ?_⟩; rfl; intro w hSw; (try dsimp only at hSw); go_simp; try with_reducible rfl)
  simp only [Act.put, List.setIfInBounds_toArray, List.set_cons_zero, List.set_cons_succ, List.getElem_toArray, List.getElem_cons_succ, List.getElem_cons_zero]
  refine wpAnyH_take (i := 8) (v := ?v8) (rfl) (by kernel_rfl) (by kernel_rfl) (by kernel_rfl) (fun _ _ _ h => h) ?y8 (by assumption) ?r8
  case y8 => first | (refine Or.inr ⟨?_, ?_⟩; rfl; rfl) | (refine Or.inl ⟨?_, ?_⟩; rfl; intro w hSw; (try dsimp only at hSw); go_simp; try with_reducible rfl)
  simp only [Act.put, List.setIfInBounds_toArray, List.set_cons_zero, List.set_cons_succ, List.getElem_toArray, List.getElem_cons_succ, List.getElem_cons_zero]
  refine wpAnyH_take (i := 9) (v := ?v9) (rfl) (by kernel_rfl) (by kernel_rfl) (by kernel_rfl) (fun _ _ _ h => h) ?y9 (by assumption) ?r9
  case y9 => first | (refine Or.inr ⟨?_, ?_⟩; rfl; rfl) | (refine Or.inl ⟨?_, ?_⟩; rfl; intro w hSw; (try dsimp only at hSw); go_simp; try with_reducible rfl)
  simp only [Act.put, List.setIfInBounds_toArray, List.set_cons_zero, List.set_cons_succ, List.getElem_toArray, List.getElem_cons_succ, List.getElem_cons_zero]
  refine wpAnyH_take (i := 10) (v := ?v10) (rfl) (by kernel_rfl) (by kernel_rfl) (by kernel_rfl) (fun _ _ _ h => h) ?y10 (by assumption) ?r10
  case y10 => first | (refine Or.inr ⟨?_, ?_⟩; rfl; rfl) | (refine Or.inl ⟨?_, ?_⟩; rfl; intro w hSw; (try dsimp only at hSw); go_simp; try with_reducible rfl)
  simp only [Act.put, List.setIfInBounds_toArray, List.set_cons_zero, List.set_cons_succ, List.getElem_toArray, List.getElem_cons_succ, List.getElem_cons_zero]
  refine wpAnyH_take (i := 11) (v := ?v11) (rfl) (by kernel_rfl) (by kernel_rfl) (by kernel_rfl) (fun _ _ _ h => h) ?y11 (by assumption) ?r11
  case y11 => first | (refine Or.inr ⟨?_, ?_⟩; rfl; rfl) | (refine Or.inl ⟨?_, ?_⟩; rfl; intro w hSw; (try dsimp only at hSw); go_simp; try with_reducible rfl)
  simp only [Act.put, List.setIfInBounds_toArray, List.set_cons_zero, List.set_cons_succ, List.getElem_toArray, List.getElem_cons_succ, List.getElem_cons_zero]
  refine wpAnyH_take (i := 12) (v := ?v12) (rfl) (by kernel_rfl) (by kernel_rfl) (by kernel_rfl) (fun _ _ _ h => h) ?y12 (by assumption) ?r12
  case y12 => first | (refine Or.inr ⟨?_, ?_⟩; rfl; rfl) | (refine Or.inl ⟨?_, ?_⟩; rfl; intro w hSw; (try dsimp only at hSw); go_simp; try with_reducible rfl)
  simp only [Act.put, List.setIfInBounds_toArray, List.set_cons_zero, List.set_cons_succ, List.getElem_toArray, List.getElem_cons_succ, List.getElem_cons_zero]
  refine wpAnyH_take (i := 13) (v := ?v13) (rfl) (by kernel_rfl) (by kernel_rfl) (by kernel_rfl) (fun _ _ _ h => h) ?y13 (by assumption) ?r13
  case y13 => first | (refine Or.inr ⟨?_, ?_⟩; rfl; rfl) | (refine Or.inl ⟨?_, ?_⟩; rfl; intro w hSw; (try dsimp only at hSw); go_simp; try with_reducible rfl)
  simp only [Act.put, List.setIfInBounds_toArray, List.set_cons_zero, List.set_cons_succ, List.getElem_toArray, List.getElem_cons_succ, List.getElem_cons_zero]
  refine wpAnyH_take (i := 14) (v := ?v14) (rfl) (by kernel_rfl) (by kernel_rfl) (by kernel_rfl) (fun _ _ _ h => h) ?y14 (by assumption) ?r14
  case y14 => first | (refine Or.inr ⟨?_, ?_⟩; rfl; rfl) | (refine Or.inl ⟨?_, ?_⟩; rfl; intro w hSw; (try dsimp only at hSw); go_simp; try with_reducible rfl)
  simp only [Act.put, List.setIfInBounds_toArray, List.set_cons_zero, List.set_cons_succ, List.getElem_toArray, List.getElem_cons_succ, List.getElem_cons_zero]
  refine wpAnyH_take (i := 15) (v := ?v15) (rfl) (by kernel_rfl) (by kernel_rfl) (by kernel_rfl) (fun _ _ _ h => h) ?y15 (by assumption) ?r15
  case y15 => first | (refine Or.inr ⟨?_, ?_⟩; rfl; rfl) | (refine Or.inl ⟨?_, ?_⟩; rfl; intro w hSw; (try dsimp only at hSw); go_simp; try with_reducible rfl)
  simp only [Act.put, List.setIfInBounds_toArray, List.set_cons_zero, List.set_cons_succ, List.getElem_toArray, List.getElem_cons_succ, List.getElem_cons_zero]
  refine wpAnyH_take (i := 16) (v := ?v16) (rfl) (by kernel_rfl) (by kernel_rfl) (by kernel_rfl) (fun _ _ _ h => h) ?y16 (by assumption) ?r16
  case y16 => first | (refine Or.inr ⟨?_, ?_⟩; rfl; rfl) | (refine Or.inl ⟨?_, ?_⟩; rfl; intro w hSw; (try dsimp only at hSw); go_simp; try with_reducible rfl)
  simp only [Act.put, List.setIfInBounds_toArray, List.set_cons_zero, List.set_cons_succ, List.getElem_toArray, List.getElem_cons_succ, List.getElem_cons_zero]
  refine wpAnyH_take (i := 17) (v := ?v17) (rfl) (by kernel_rfl) (by kernel_rfl) (by kernel_rfl) (fun _ _ _ h => h) ?y17 (by assumption) ?r17
  case y17 => first | (refine Or.inr ⟨?_, ?_⟩; rfl; rfl) | (refine Or.inl ⟨?_, ?_⟩; rfl; intro w hSw; (try dsimp only at hSw); go_simp; try with_reducible rfl)
  simp only [Act.put, List.setIfInBounds_toArray, List.set_cons_zero, List.set_cons_succ, List.getElem_toArray, List.getElem_cons_succ, List.getElem_cons_zero]
  refine wpAnyH_take (i := 18) (v := ?v18) (rfl) (by kernel_rfl) (by kernel_rfl) (by kernel_rfl) (fun _ _ _ h => h) ?y18 (by assumption) ?r18
  case y18 => first | (refine Or.inr ⟨?_, ?_⟩; rfl; rfl) | (refine Or.inl ⟨?_, ?_⟩; rfl; intro w hSw; (try dsimp only at hSw); go_simp; try with_reducible rfl)
  simp only [Act.put, List.setIfInBounds_toArray, List.set_cons_zero, List.set_cons_succ, List.getElem_toArray, List.getElem_cons_succ, List.getElem_cons_zero]
  refine wpAnyH_take (i := 19) (v := ?v19) (rfl) (by kernel_rfl) (by kernel_rfl) (by kernel_rfl) (fun _ _ _ h => h) ?y19 (by assumption) ?r19
  case y19 => first | (refine Or.inr ⟨?_, ?_⟩; rfl; rfl) | (refine Or.inl ⟨?_, ?_⟩; rfl; intro w hSw; (try dsimp only at hSw); go_simp; try with_reducible rfl)
  simp only [Act.put, List.setIfInBounds_toArray, List.set_cons_zero, List.set_cons_succ, List.getElem_toArray, List.getElem_cons_succ, List.getElem_cons_zero]
  refine wpAnyH_take (i := 20) (v := ?v20) (rfl) (by kernel_rfl) (by kernel_rfl) (by kernel_rfl) (fun _ _ _ h => h) ?y20 (by assumption) ?r20
  case y20 => first | (refine Or.inr ⟨?_, ?_⟩; rfl; rfl) | (refine Or.inl ⟨?_, ?_⟩; rfl; intro w hSw; (try dsimp only at hSw); go_simp; try with_reducible rfl)
  simp only [Act.put, List.setIfInBounds_toArray, List.set_cons_zero, List.set_cons_succ, List.getElem_toArray, List.getElem_cons_succ, List.getElem_cons_zero]
  refine wpAnyH_take (i := 21) (v := ?v21) (rfl) (by kernel_rfl) (by kernel_rfl) (by kernel_rfl) (fun _ _ _ h => h) ?y21 (by assumption) ?r21
  case y21 => first | (refine Or.inr ⟨?_, ?_⟩; rfl; rfl) | (refine Or.inl ⟨?_, ?_⟩; rfl; intro w hSw; (try dsimp only at hSw); go_simp; try with_reducible rfl)
  simp only [Act.put, List.setIfInBounds_toArray, List.set_cons_zero, List.set_cons_succ, List.getElem_toArray, List.getElem_cons_succ, List.getElem_cons_zero]
  refine wpAnyH_take (i := 22) (v := ?v22) (rfl) (by kernel_rfl) (by kernel_rfl) (by kernel_rfl) (fun _ _ _ h => h) ?y22 (by assumption) ?r22
  case y22 => first | (refine Or.inr ⟨?_, ?_⟩; rfl; rfl) | (refine Or.inl ⟨?_, ?_⟩; rfl; intro w hSw; (try dsimp only at hSw); go_simp; try with_reducible rfl)
  simp only [Act.put, List.setIfInBounds_toArray, List.set_cons_zero, List.set_cons_succ, List.getElem_toArray, List.getElem_cons_succ, List.getElem_cons_zero]
  refine wpAnyH_take (i := 23) (v := ?v23) (rfl) (by kernel_rfl) (by kernel_rfl) (by kernel_rfl) (fun _ _ _ h => h) ?y23 (by assumption) ?r23
  case y23 => first | (refine Or.inr ⟨?_, ?_⟩; rfl; rfl) | (refine Or.inl ⟨?_, ?_⟩; rfl; intro w hSw; (try dsimp only at hSw); go_simp; try with_reducible rfl)
  simp only [Act.put, List.setIfInBounds_toArray, List.set_cons_zero, List.set_cons_succ, List.getElem_toArray, List.getElem_cons_succ, List.getElem_cons_zero]
  refine wpAnyH_take (i := 24) (v := ?v24) (rfl) (by kernel_rfl) (by kernel_rfl) (by kernel_rfl) (fun _ _ _ h => h) ?y24 (by assumption) ?r24
  case y24 => first | (refine Or.inr ⟨?_, ?_⟩; rfl; rfl) | (refine Or.inl ⟨?_, ?_⟩; rfl; intro w hSw; (try dsimp only at hSw); go_simp; try with_reducible rfl)
  simp only [Act.put, List.setIfInBounds_toArray, List.set_cons_zero, List.set_cons_succ, List.getElem_toArray, List.getElem_cons_succ, List.getElem_cons_zero]
  refine wpAnyH_take (i := 25) (v := ?v25) (rfl) (by kernel_rfl) (by kernel_rfl) (by kernel_rfl) (fun _ _ _ h => h) ?y25 (by assumption) ?r25
  case y25 => first | (refine Or.inr ⟨?_, ?_⟩; rfl; rfl) | (refine Or.inl ⟨?_, ?_⟩; rfl; intro w hSw; (try dsimp only at hSw); go_simp; try with_reducible rfl)
  simp only [Act.put, List.setIfInBounds_toArray, List.set_cons_zero, List.set_cons_succ, List.getElem_toArray, List.getElem_cons_succ, List.getElem_cons_zero]
  refine wpAnyH_take (i := 26) (v := ?v26) (rfl) (by kernel_rfl) (by kernel_rfl) (by kernel_rfl) (fun _ _ _ h => h) ?y26 (by assumption) ?r26
  case y26 => first | (refine Or.inr ⟨?_, ?_⟩; rfl; rfl) | (refine Or.inl ⟨?_, ?_⟩; rfl; intro w hSw; (try dsimp only at hSw); go_simp; try with_reducible rfl)
  simp only [Act.put, List.setIfInBounds_toArray, List.set_cons_zero, List.set_cons_succ, List.getElem_toArray, List.getElem_cons_succ, List.getElem_cons_zero]
  refine wpAnyH_take (i := 27) (v := ?v27) (rfl) (by kernel_rfl) (by kernel_rfl) (by kernel_rfl) (fun _ _ _ h => h) ?y27 (by assumption) ?r27
  case y27 => first | (refine Or.inr ⟨?_, ?_⟩; rfl; rfl) | (refine Or.inl ⟨?_, ?_⟩; rfl; intro w hSw; (try dsimp only at hSw); go_simp; try with_reducible rfl)
  simp only [Act.put, List.setIfInBounds_toArray, List.set_cons_zero, List.set_cons_succ, List.getElem_toArray, List.getElem_cons_succ, List.getElem_cons_zero]
  refine wpAnyH_take (i := 28) (v := ?v28) (rfl) (by kernel_rfl) (by kernel_rfl) (by kernel_rfl) (fun _ _ _ h => h) ?y28 (by assumption) ?r28
  case y28 => first | (refine Or.inr ⟨?_, ?_⟩; rfl; rfl) | (refine Or.inl ⟨?_, ?_⟩; rfl; intro w hSw; (try dsimp only at hSw); go_simp; try with_reducible rfl)
  simp only [Act.put, List.setIfInBounds_toArray, List.set_cons_zero, List.set_cons_succ, List.getElem_toArray, List.getElem_cons_succ, List.getElem_cons_zero]
  refine wpAnyH_take (i := 29) (v := ?v29) (rfl) (by kernel_rfl) (by kernel_rfl) (by kernel_rfl) (fun _ _ _ h => h) ?y29 (by assumption) ?r29
  case y29 => first | (refine Or.inr ⟨?_, ?_⟩; rfl; rfl) | (refine Or.inl ⟨?_, ?_⟩; rfl; intro w hSw; (try dsimp only at hSw); go_simp; try with_reducible rfl)
  simp only [Act.put, List.setIfInBounds_toArray, List.set_cons_zero, List.set_cons_succ, List.getElem_toArray, List.getElem_cons_succ, List.getElem_cons_zero]
  refine wpAnyH_take (i := 30) (v := ?v30) (rfl) (by kernel_rfl) (by kernel_rfl) (by kernel_rfl) (fun _ _ _ h => h) ?y30 (by assumption) ?r30
  case y30 => first | (refine Or.inr ⟨?_, ?_⟩; rfl; rfl) | (refine Or.inl ⟨?_, ?_⟩; rfl; intro w hSw; (try dsimp only at hSw); go_simp; try with_reducible rfl)
  simp only [Act.put, List.setIfInBounds_toArray, List.set_cons_zero, List.set_cons_succ, List.getElem_toArray, List.getElem_cons_succ, List.getElem_cons_zero]
  refine wpAnyH_take (i := 31) (v := ?v31) (rfl) (by kernel_rfl) (by kernel_rfl) (by kernel_rfl) (fun _ _ _ h => h) ?y31 (by assumption) ?r31
  case y31 => first | (refine Or.inr ⟨?_, ?_⟩; rfl; rfl) | (refine Or.inl ⟨?_, ?_⟩; rfl; intro w hSw; (try dsimp only at hSw); go_simp; try with_reducible rfl)
  simp only [Act.put, List.setIfInBounds_toArray, List.set_cons_zero, List.set_cons_succ, List.getElem_toArray, List.getElem_cons_succ, List.getElem_cons_zero]
  refine wpAnyH_take (i := 32) (v := ?v32) (rfl) (by kernel_rfl) (by kernel_rfl) (by kernel_rfl) (fun _ _ _ h => h) ?y32 (by assumption) ?r32
  case y32 => first | (refine Or.inr ⟨?_, ?_⟩; rfl; rfl) | (refine Or.inl ⟨?_, ?_⟩; rfl; intro w hSw; (try dsimp only at hSw); go_simp; try with_reducible rfl)
  simp only [Act.put, List.setIfInBounds_toArray, List.set_cons_zero, List.set_cons_succ, List.getElem_toArray, List.getElem_cons_succ, List.getElem_cons_zero]
  refine wpAnyH_take (i := 33) (v := ?v33) (rfl) (by kernel_rfl) (by kernel_rfl) (by kernel_rfl) (fun _ _ _ h => h) ?y33 (by assumption) ?r33
  case y33 => first | (refine Or.inr ⟨?_, ?_⟩; rfl; rfl) | (refine Or.inl ⟨?_, ?_⟩; rfl; intro w hSw; (try dsimp only at hSw); go_simp; try with_reducible rfl)
  simp only [Act.put, List.setIfInBounds_toArray, List.set_cons_zero, List.set_cons_succ, List.getElem_toArray, List.getElem_cons_succ, List.getElem_cons_zero]
  refine wpAnyH_take (i := 34) (v := ?v34) (rfl) (by kernel_rfl) (by kernel_rfl) (by kernel_rfl) (fun _ _ _ h => h) ?y34 (by assumption) ?r34
  case y34 => first | (refine Or.inr ⟨?_, ?_⟩; rfl; rfl) | (refine Or.inl ⟨?_, ?_⟩; rfl; intro w hSw; (try dsimp only at hSw); go_simp; try with_reducible rfl)
  simp only [Act.put, List.setIfInBounds_toArray, List.set_cons_zero, List.set_cons_succ, List.getElem_toArray, List.getElem_cons_succ, List.getElem_cons_zero]
  refine wpAnyH_take (i := 35) (v := ?v35) (rfl) (by kernel_rfl) (by kernel_rfl) (by kernel_rfl) (fun _ _ _ h => h) ?y35 (by assumption) ?r35
  case y35 => first | (refine Or.inr ⟨?_, ?_⟩; rfl; rfl) | (refine Or.inl ⟨?_, ?_⟩; rfl; intro w hSw; (try dsimp only at hSw); go_simp; try with_reducible rfl)
  simp only [Act.put, List.setIfInBounds_toArray, List.set_cons_zero, List.set_cons_succ, List.getElem_toArray, List.getElem_cons_succ, List.getElem_cons_zero]
  refine wpAnyH_take (i := 36) (v := ?v36) (rfl) (by kernel_rfl) (by kernel_rfl) (by kernel_rfl) (fun _ _ _ h => h) ?y36 (by assumption) ?r36
  case y36 => first | (refine Or.inr ⟨?_, ?_⟩; rfl; rfl) | (refine Or.inl ⟨?_, ?_⟩; rfl; intro w hSw; (try dsimp only at hSw); go_simp; try with_reducible rfl)
  simp only [Act.put, List.setIfInBounds_toArray, List.set_cons_zero, List.set_cons_succ, List.getElem_toArray, List.getElem_cons_succ, List.getElem_cons_zero]
  refine wpAnyH_take (i := 37) (v := ?v37) (rfl) (by kernel_rfl) (by kernel_rfl) (by kernel_rfl) (fun _ _ _ h => h) ?y37 (by assumption) ?r37
  case y37 => first | (refine Or.inr ⟨?_, ?_⟩; rfl; rfl) | (refine Or.inl ⟨?_, ?_⟩; rfl; intro w hSw; (try dsimp only at hSw); go_simp; try with_reducible rfl)
  simp only [Act.put, List.setIfInBounds_toArray, List.set_cons_zero, List.set_cons_succ, List.getElem_toArray, List.getElem_cons_succ, List.getElem_cons_zero]
  refine wpAnyH_take (i := 38) (v := ?v38) (rfl) (by kernel_rfl) (by kernel_rfl) (by kernel_rfl) (fun _ _ _ h => h) ?y38 (by assumption) ?r38
  case y38 => first | (refine Or.inr ⟨?_, ?_⟩; rfl; rfl) | (refine Or.inl ⟨?_, ?_⟩; rfl; intro w hSw; (try dsimp only at hSw); go_simp; try with_reducible rfl)
  simp only [Act.put, List.setIfInBounds_toArray, List.set_cons_zero, List.set_cons_succ, List.getElem_toArray, List.getElem_cons_succ, List.getElem_cons_zero]
  refine wpAnyH_take (i := 39) (v := ?v39) (rfl) (by kernel_rfl) (by kernel_rfl) (by kernel_rfl) (fun _ _ _ h => h) ?y39 (by assumption) ?r39
  case y39 => first | (refine Or.inr ⟨?_, ?_⟩; rfl; rfl) | (refine Or.inl ⟨?_, ?_⟩; rfl; intro w hSw; (try dsimp only at hSw); go_simp; try with_reducible rfl)
  simp only [Act.put, List.setIfInBounds_toArray, List.set_cons_zero, List.set_cons_succ, List.getElem_toArray, List.getElem_cons_succ, List.getElem_cons_zero]
  refine wpAnyH_take (i := 40) (v := ?v40) (rfl) (by kernel_rfl) (by kernel_rfl) (by kernel_rfl) (fun _ _ _ h => h) ?y40 (by assumption) ?r40
  case y40 => first | (refine Or.inr ⟨?_, ?_⟩; rfl; rfl) | (refine Or.inl ⟨?_, ?_⟩; rfl; intro w hSw; (try dsimp only at hSw); go_simp; try with_reducible rfl)
  simp only [Act.put, List.setIfInBounds_toArray, List.set_cons_zero, List.set_cons_succ, List.getElem_toArray, List.getElem_cons_succ, List.getElem_cons_zero]
  refine wpAnyH_take (i := 41) (v := ?v41) (rfl) (by kernel_rfl) (by kernel_rfl) (by kernel_rfl) (fun _ _ _ h => h) ?y41 (by assumption) ?r41
  case y41 => first | (refine Or.inr ⟨?_, ?_⟩; rfl; rfl) | (refine Or.inl ⟨?_, ?_⟩; rfl; intro w hSw; (try dsimp only at hSw); go_simp; try with_reducible rfl)
  simp only [Act.put, List.setIfInBounds_toArray, List.set_cons_zero, List.set_cons_succ, List.getElem_toArray, List.getElem_cons_succ, List.getElem_cons_zero]
  refine wpAnyH_take (i := 42) (v := ?v42) (rfl) (by kernel_rfl) (by kernel_rfl) (by kernel_rfl) (fun _ _ _ h => h) ?y42 (by assumption) ?r42
  case y42 => first | (refine Or.inr ⟨?_, ?_⟩; rfl; rfl) | (refine Or.inl ⟨?_, ?_⟩; rfl; intro w hSw; (try dsimp only at hSw); go_simp; try with_reducible rfl)
  simp only [Act.put, List.setIfInBounds_toArray, List.set_cons_zero, List.set_cons_succ, List.getElem_toArray, List.getElem_cons_succ, List.getElem_cons_zero]
  refine wpAnyH_take (i := 43) (v := ?v43) (rfl) (by kernel_rfl) (by kernel_rfl) (by kernel_rfl) (fun _ _ _ h => h) ?y43 (by assumption) ?r43
  case y43 => first | (refine Or.inr ⟨?_, ?_⟩; rfl; rfl) | (refine Or.inl ⟨?_, ?_⟩; rfl; intro w hSw; (try dsimp only at hSw); go_simp; try with_reducible rfl)
  simp only [Act.put, List.setIfInBounds_toArray, List.set_cons_zero, List.set_cons_succ, List.getElem_toArray, List.getElem_cons_succ, List.getElem_cons_zero]
  refine wpAnyH_take (i := 44) (v := ?v44) (rfl) (by kernel_rfl) (by kernel_rfl) (by kernel_rfl) (fun _ _ _ h => h) ?y44 (by assumption) ?r44
  case y44 => first | (refine Or.inr ⟨?_, ?_⟩; rfl; rfl) | (refine Or.inl ⟨?_, ?_⟩; rfl; intro w hSw; (try dsimp only at hSw); go_simp; try with_reducible rfl)
  simp only [Act.put, List.setIfInBounds_toArray, List.set_cons_zero, List.set_cons_succ, List.getElem_toArray, List.getElem_cons_succ, List.getElem_cons_zero]
  refine wpAnyH_take (i := 45) (v := ?v45) (rfl) (by kernel_rfl) (by kernel_rfl) (by kernel_rfl) (fun _ _ _ h => h) ?y45 (by assumption) ?r45
  case y45 => first | (refine Or.inr ⟨?_, ?_⟩; rfl; rfl) | (refine Or.inl ⟨?_, ?_⟩; rfl; intro w hSw; (try dsimp only at hSw); go_simp; try with_reducible rfl)
  simp only [Act.put, List.setIfInBounds_toArray, List.set_cons_zero, List.set_cons_succ, List.getElem_toArray, List.getElem_cons_succ, List.getElem_cons_zero]
  refine wpAnyH_take (i := 46) (v := ?v46) (rfl) (by kernel_rfl) (by kernel_rfl) (by kernel_rfl) (fun _ _ _ h => h) ?y46 (by assumption) ?r46
  case y46 => first | (refine Or.inr ⟨?_, ?_⟩; rfl; rfl) | (refine Or.inl ⟨?_, ?_⟩; rfl; intro w hSw; (try dsimp only at hSw); go_simp; try with_reducible rfl)
  simp only [Act.put, List.setIfInBounds_toArray, List.set_cons_zero, List.set_cons_succ, List.getElem_toArray, List.getElem_cons_succ, List.getElem_cons_zero]
  refine wpAnyH_take (i := 47) (v := ?v47) (rfl) (by kernel_rfl) (by kernel_rfl) (by kernel_rfl) (fun _ _ _ h => h) ?y47 (by assumption) ?r47
  case y47 => first | (refine Or.inr ⟨?_, ?_⟩; rfl; rfl) | (refine Or.inl ⟨?_, ?_⟩; rfl; intro w hSw; (try dsimp only at hSw); go_simp; try with_reducible rfl)
  simp only [Act.put, List.setIfInBounds_toArray, List.set_cons_zero, List.set_cons_succ, List.getElem_toArray, List.getElem_cons_succ, List.getElem_cons_zero]
  refine wpAnyH_take (i := 48) (v := ?v48) (rfl) (by kernel_rfl) (by kernel_rfl) (by kernel_rfl) (fun _ _ _ h => h) ?y48 (by assumption) ?r48
  case y48 => first | (refine Or.inr ⟨?_, ?_⟩; rfl; rfl) | (refine Or.inl ⟨?_, ?_⟩; rfl; intro w hSw; (try dsimp only at hSw); go_simp; try with_reducible rfl)
  simp only [Act.put, List.setIfInBounds_toArray, List.set_cons_zero, List.set_cons_succ, List.getElem_toArray, List.getElem_cons_succ, List.getElem_cons_zero]
  refine wpAnyH_take (i := 49) (v := ?v49) (rfl) (by kernel_rfl) (by kernel_rfl) (by kernel_rfl) (fun _ _ _ h => h) ?y49 (by assumption) ?r49
  case y49 => first | (refine Or.inr ⟨?_, ?_⟩; rfl; rfl) | (refine Or.inl ⟨?_, ?_⟩; rfl; intro w hSw; (try dsimp only at hSw); go_simp; try with_reducible rfl)
  simp only [Act.put, List.setIfInBounds_toArray, List.set_cons_zero, List.set_cons_succ, List.getElem_toArray, List.getElem_cons_succ, List.getElem_cons_zero]
  refine wpAnyH_take (i := 50) (v := ?v50) (rfl) (by kernel_rfl) (by kernel_rfl) (by kernel_rfl) (fun _ _ _ h => h) ?y50 (by assumption) ?r50
  case y50 => first | (refine Or.inr ⟨?_, ?_⟩; rfl; rfl) | (refine Or.inl ⟨?_, ?_⟩; rfl; intro w hSw; (try dsimp only at hSw); go_simp; try with_reducible rfl)
  simp only [Act.put, List.setIfInBounds_toArray, List.set_cons_zero, List.set_cons_succ, List.getElem_toArray, List.getElem_cons_succ, List.getElem_cons_zero]
  refine wpAnyH_take (i := 51) (v := ?v51) (rfl) (by kernel_rfl) (by kernel_rfl) (by kernel_rfl) (fun _ _ _ h => h) ?y51 (by assumption) ?r51
  case y51 => first | (refine Or.inr ⟨?_, ?_⟩; rfl; rfl) | (refine Or.inl ⟨?_, ?_⟩; rfl; intro w hSw; (try dsimp only at hSw); go_simp; try with_reducible rfl)
  simp only [Act.put, List.setIfInBounds_toArray, List.set_cons_zero, List.set_cons_succ, List.getElem_toArray, List.getElem_cons_succ, List.getElem_cons_zero]
  refine wpAnyH_take (i := 52) (v := ?v52) (rfl) (by kernel_rfl) (by kernel_rfl) (by kernel_rfl) (fun _ _ _ h => h) ?y52 (by assumption) ?r52
  case y52 => first | (refine Or.inr ⟨?_, ?_⟩; rfl; rfl) | (refine Or.inl ⟨?_, ?_⟩; rfl; intro w hSw; (try dsimp only at hSw); go_simp; try with_reducible rfl)
  simp only [Act.put, List.setIfInBounds_toArray, List.set_cons_zero, List.set_cons_succ, List.getElem_toArray, List.getElem_cons_succ, List.getElem_cons_zero]
  refine wpAnyH_take (i := 53) (v := ?v53) (rfl) (by kernel_rfl) (by kernel_rfl) (by kernel_rfl) (fun _ _ _ h => h) ?y53 (by assumption) ?r53
  case y53 => first | (refine Or.inr ⟨?_, ?_⟩; rfl; rfl) | (refine Or.inl ⟨?_, ?_⟩; rfl; intro w hSw; (try dsimp only at hSw); go_simp; try with_reducible rfl)
  simp only [Act.put, List.setIfInBounds_toArray, List.set_cons_zero, List.set_cons_succ, List.getElem_toArray, List.getElem_cons_succ, List.getElem_cons_zero]
  refine wpAnyH_take (i := 54) (v := ?v54) (rfl) (by kernel_rfl) (by kernel_rfl) (by kernel_rfl) (fun _ _ _ h => h) ?y54 (by assumption) ?r54
  case y54 => first | (refine Or.inr ⟨?_, ?_⟩; rfl; rfl) | (refine Or.inl ⟨?_, ?_⟩; rfl; intro w hSw; (try dsimp only at hSw); go_simp; try with_reducible rfl)
  simp only [Act.put, List.setIfInBounds_toArray, List.set_cons_zero, List.set_cons_succ, List.getElem_toArray, List.getElem_cons_succ, List.getElem_cons_zero]
  refine wpAnyH_take (i := 55) (v := ?v55) (rfl) (by kernel_rfl) (by kernel_rfl) (by kernel_rfl) (fun _ _ _ h => h) ?y55 (by assumption) ?r55
  case y55 => first | (refine Or.inr ⟨?_, ?_⟩; rfl; rfl) | (refine Or.inl ⟨?_, ?_⟩; rfl; intro w hSw; (try dsimp only at hSw); go_simp; try with_reducible rfl)
  simp only [Act.put, List.setIfInBounds_toArray, List.set_cons_zero, List.set_cons_succ, List.getElem_toArray, List.getElem_cons_succ, List.getElem_cons_zero]
  refine wpAnyH_take (i := 56) (v := ?v56) (rfl) (by kernel_rfl) (by kernel_rfl) (by kernel_rfl) (fun _ _ _ h => h) ?y56 (by assumption) ?r56
  case y56 => first | (refine Or.inr ⟨?_, ?_⟩; rfl; rfl) | (refine Or.inl ⟨?_, ?_⟩; rfl; intro w hSw; (try dsimp only at hSw); go_simp; try with_reducible rfl)
  simp only [Act.put, List.setIfInBounds_toArray, List.set_cons_zero, List.set_cons_succ, List.getElem_toArray, List.getElem_cons_succ, List.getElem_cons_zero]
  refine wpAnyH_take (i := 57) (v := ?v57) (rfl) (by kernel_rfl) (by kernel_rfl) (by kernel_rfl) (fun _ _ _ h => h) ?y57 (by assumption) ?r57
  case y57 => first | (refine Or.inr ⟨?_, ?_⟩; rfl; rfl) | (refine Or.inl ⟨?_, ?_⟩; rfl; intro w hSw; (try dsimp only at hSw); go_simp; try with_reducible rfl)
  simp only [Act.put, List.setIfInBounds_toArray, List.set_cons_zero, List.set_cons_succ, List.getElem_toArray, List.getElem_cons_succ, List.getElem_cons_zero]
  refine wpAnyH_take (i := 58) (v := ?v58) (rfl) (by kernel_rfl) (by kernel_rfl) (by kernel_rfl) (fun _ _ _ h => h) ?y58 (by assumption) ?r58
  case y58 => first | (refine Or.inr ⟨?_, ?_⟩; rfl; rfl) | (refine Or.inl ⟨?_, ?_⟩; rfl; intro w hSw; (try dsimp only at hSw); go_simp; try with_reducible rfl)
  simp only [Act.put, List.setIfInBounds_toArray, List.set_cons_zero, List.set_cons_succ, List.getElem_toArray, List.getElem_cons_succ, List.getElem_cons_zero]
  refine wpAnyH_take (i := 59) (v := ?v59) (rfl) (by kernel_rfl) (by kernel_rfl) (by kernel_rfl) (fun _ _ _ h => h) ?y59 (by assumption) ?r59
  case y59 => first | (refine Or.inr ⟨?_, ?_⟩; rfl; rfl) | (refine Or.inl ⟨?_, ?_⟩; rfl; intro w hSw; (try dsimp only at hSw); go_simp; try with_reducible rfl)
  simp only [Act.put, List.setIfInBounds_toArray, List.set_cons_zero, List.set_cons_succ, List.getElem_toArray, List.getElem_cons_succ, List.getElem_cons_zero]
  refine wpAnyH_take (i := 60) (v := ?v60) (rfl) (by kernel_rfl) (by kernel_rfl) (by kernel_rfl) (fun _ _ _ h => h) ?y60 (by assumption) ?r60
  case y60 => first | (refine Or.inr ⟨?_, ?_⟩; rfl; rfl) | (refine Or.inl ⟨?_, ?_⟩; rfl; intro w hSw; (try dsimp only at hSw); go_simp; try with_reducible rfl)
  simp only [Act.put, List.setIfInBounds_toArray, List.set_cons_zero, List.set_cons_succ, List.getElem_toArray, List.getElem_cons_succ, List.getElem_cons_zero]
  refine wpAnyH_done (by kernel_rfl) ?_ _
  clear hHeld
  go_wp2
  go_ret
  exact ⟨rfl, B3.out⟩

theorem mk_s {k l s a b y : Int} : (mk k l s a b y).s = s := by unfold mk; split <;> rfl
theorem mk_y {k l s a b y : Int} (h : (mk k l s a b y).k = 1) (k0 : 0 ≤ k) : (mk k l s a b y).y = y := by
  unfold mk at h ⊢
  split
  · rfl
  next hk => rw [if_neg hk] at h; dsimp only at h; omega
theorem wireParts_term (k l s a b y : Int) (w : World) (hk : (Lit.int .u8 k).wf = true) (hl : (Lit.int .u8 l).wf = true) (hs : (Lit.int .u16 s).wf = true) (ha : (Lit.int .u8 a).wf = true) (hb : (Lit.int .u8 b).wf = true) (hy : (Lit.int .u32 y).wf = true) :
    Calls Try.prog 5 #[.int .u8 k, .int .u8 l, .int .u16 s, .int .u8 a, .int .u8 b, .int .u32 y] w fun e w' => e = .returned (.bool true) ∧ Below w.heap.size w w' := by
  obtain ⟨k0, k1⟩ := lo8 hk
  obtain ⟨l0, l1⟩ := lo8 hl
  obtain ⟨s0, s1⟩ := lo16 hs
  obtain ⟨a0, a1⟩ := lo8 ha
  obtain ⟨b0, b1⟩ := lo8 hb
  obtain ⟨y0, y1⟩ := lo32 hy
  obtain ⟨F, hF⟩ : ∃ F, mk k l s a b y = F := ⟨_, rfl⟩
  have MK := Aside0.mk (fun (w : World) => make_fr k l s a b y w k0 k1 l0 l1 s0 s1 a0 a1 b0 b1 y0 y1 F hF)
  have HW := Aside0.mk (hF ▸ mk_wf k0 k1 l0 l1 s0 s1 a0 a1 b0 b1 y0 y1 : F.wf)
  have HS := Aside0.mk (hF ▸ mk_sound k0 a0 b0 : F.sound = true)
  have es : F.s = s := hF ▸ mk_s
  have ey : F.k = 1 → F.y = y := fun h => by subst hF; exact mk_y h k0
  clear hF
  subst es
  by_cases h1 : F.k = 1
  · obtain rfl := ey h1
    exact parts_long k l a b w F MK HW HS h1
  · exact parts_short k l a b y w F MK HW HS h1
end Go.Proofs.Ytamaemlhnkabcaa.Own
