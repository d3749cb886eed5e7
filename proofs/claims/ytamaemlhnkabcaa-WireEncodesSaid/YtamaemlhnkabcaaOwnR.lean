/- WireEncodes (layer 3). -/
import Derived.Test.YtamaemlhnkabcaaOwnQ
import Derived.Deep.RegionHeld3
import Derived.OpenShut
import Derived.Lib.SmallJoins
namespace Go.Proofs.Ytamaemlhnkabcaa.Own
open Go.RowKit Go.Proofs.Ytamaemlhnkabcaa.Crc Go.Proofs.Ytamaemlhnkabcaa.PWireRefuses Go.Proofs.YtamaemlhnkabcaaW.PrintWords Go.Proofs.YtamaemlhnkabcaaW.PrintLast Go.Proofs.YtamaemlhnkabcaaW.PrintMore
set_option linter.unusedVariables false
set_option linter.unusedSimpArgs false

theorem encodes_held {W : World} {g : Nat} {F : Fr} {A A' : Option Addr} {n cp cp' : Nat} {l : List Int} (h : At W g F) (r : ReadsInt W .u8 A n l) (r' : ReadsInt W .u8 A' n l) :
    W.cell? ⟨g, 0, none⟩ = some (.int .u8 F.k) ∧ W.cell? ⟨g, 1, none⟩ = some (.int .u8 F.l) ∧ W.cell? ⟨g, 2, none⟩ = some (.int .u16 F.s) ∧ W.cell? ⟨g, 3, none⟩ = some (.int .u8 F.a) ∧ W.cell? ⟨g, 4, none⟩ = some (.int .u8 F.b) ∧ W.cell? ⟨g, 5, none⟩ = some (.int .u32 F.y) ∧ (convert 27 9 (.slice A n cp)).run Try.prog W = .ok (.string (strOfNums l)) W ∧ (convert 27 9 (.slice A' n cp')).run Try.prog W = .ok (.string (strOfNums l)) W := by
  obtain ⟨c0, c1, c2, c3, c4, c5⟩ := h.cells
  exact ⟨c0, c1, c2, c3, c4, c5, string_of_reads Try.underlying27 Try.underlying5 Try.underlying9 (h := r), string_of_reads Try.underlying27 Try.underlying5 Try.underlying9 (h := r')⟩
set_option maxHeartbeats 4000000 in
set_option maxRecDepth 100000 in
theorem encodes_ok (F : Fr) (w : World) (hw : F.wf) (hs : F.sound = true) : Calls Try.prog 6 #[.agg #[.int .u8 F.k, .int .u8 F.l, .int .u16 F.s, .int .u8 F.a, .int .u8 F.b, .int .u32 F.y]] w fun e w' => e = .returned (.bool true) ∧ Below w.heap.size w w' := by
  have HW := Aside0.mk hw
  have HS := Aside0.mk hs
  have SC := Aside0.mk (fun w => rsnd_calls F w hw)
  rw [hs] at SC
  have X0 := Aside0.mk (show At (w.alloc (.cells #[.int .u8 F.k, .int .u8 F.l, .int .u16 F.s, .int .u8 F.a, .int .u8 F.b, .int .u32 F.y] 25)) w.heap.size F from blk_new _ _)
  have B0 := Aside0.mk (below_alloc (Below.refl w.heap.size w) (.cells #[.int .u8 F.k, .int .u8 F.l, .int .u16 F.s, .int .u8 F.a, .int .u8 F.b, .int .u32 F.y] 25))
  clear hw hs
  go_enter Try.func6, Try.ntmps6
  go_wp2_with fail
  refine (enc_fr F _ HW.out HS.out).mono ?_
  rintro e w1 ⟨base, v, rfl, R⟩
  obtain ⟨A, c, rfl, hr, -, -⟩ := R.slice
  have HR1 := Aside0.mk hr
  have hb := R.bel
  clear R hr
  have B1 := Aside0.mk (below_then B0.out (by simp) hb)
  have X1 := Aside0.mk (At.below X0.out hb)
  clear hb
  obtain ⟨c0, c1, c2, c3, c4, c5⟩ := X1.out.cells
  go_wp2_with fail
  refine (renc_fr F _ HW.out HS.out).mono ?_
  rintro e w2 ⟨base', v', rfl, R⟩
  obtain ⟨A', c', rfl, hr, -, -⟩ := R.slice
  have HR2 := Aside0.mk (show ReadsInt w2 .u8 A F.bytes.length F.bytes from HR1.out.below R.bel)
  have HT2 := Aside0.mk hr
  have hb := R.bel
  clear R hr
  have B2 := Aside0.mk (below_then B1.out B1.out.size hb)
  have X2 := Aside0.mk (At.below X1.out hb)
  clear hb c0 c1 c2 c3 c4 c5
  go_wp2_with fail
  refine wp_region_held_drew (S := fun W => W.cell? ⟨w.heap.size, 0, none⟩ = some (.int .u8 F.k) ∧ W.cell? ⟨w.heap.size, 1, none⟩ = some (.int .u8 F.l) ∧ W.cell? ⟨w.heap.size, 2, none⟩ = some (.int .u16 F.s) ∧ W.cell? ⟨w.heap.size, 3, none⟩ = some (.int .u8 F.a) ∧ W.cell? ⟨w.heap.size, 4, none⟩ = some (.int .u8 F.b) ∧ W.cell? ⟨w.heap.size, 5, none⟩ = some (.int .u32 F.y) ∧ (convert 27 9 (.slice A F.bytes.length c)).run Try.prog W = .ok (.string (strOfNums F.bytes)) W ∧ (convert 27 9 (.slice A' F.bytes.length c')).run Try.prog W = .ok (.string (strOfNums F.bytes)) W) (by kernel_rfl) ?_ (fun hHeld => ?_)
  · exact encodes_held X2.out.drew (HR2.out.below (Below.refl _ _).drew) (HT2.out.below (Below.refl _ _).drew)
  refine wpAnyH_ready (rs := [0]) (by kernel_rfl) (by simp) ?_
  refine AllReadyH.cons rfl (fun K hK => ?_) AllReadyH.nil
  go_simp
  refine (known_calls _).mono ?_
  rintro e w3 ⟨rfl, hb⟩
  have B3 := Aside0.mk (below_then B2.out.drew B2.out.drew.size hb)
  have X3 := Aside0.mk (At.below (At.drew X2.out) hb)
  have HR3 := Aside0.mk ((HR2.out.below (Below.refl _ _).drew).below hb)
  have HT3 := Aside0.mk ((HT2.out.below (Below.refl _ _).drew).below hb)
  clear hb hHeld
  go_wp2_with fail
  refine hK.out _ _ (encodes_held X3.out HR3.out HT3.out) (fun hHeld => ?_)
  clear hK K
  try simp only [Act.put, List.setIfInBounds_toArray, List.set_cons_zero, List.set_cons_succ, List.getElem_toArray, List.getElem_cons_succ, List.getElem_cons_zero]
  refine wpAnyH_take (i := 1) (v := ?v1) (rfl) (by kernel_rfl) (by kernel_rfl) (by kernel_rfl) (fun _ _ _ h => h) ?y1 (by assumption) ?r1
  case y1 => first | (refine Or.inr ⟨?_, ?_⟩; rfl; rfl) | (refine Or.inl ⟨?_, ?_⟩; rfl; intro w hSw; (try dsimp only at hSw); go_simp; try with_reducible rfl)
  simp only [Act.put, List.setIfInBounds_toArray, List.set_cons_zero, List.set_cons_succ, List.getElem_toArray, List.getElem_cons_succ, List.getElem_cons_zero]
  refine wpAnyH_take (i := 2) (v := ?v2) (rfl) (by kernel_rfl) (by kernel_rfl) (by kernel_rfl) (fun _ _ _ h => h) ?y2 (by assumption) ?r2
  case y2 => first | (refine Or.inr ⟨?_, ?_⟩; rfl; rfl) | (refine Or.inl ⟨?_, ?_⟩; rfl; intro w hSw; (try dsimp only at hSw); go_simp; try with_reducible rfl)
  simp only [Act.put, List.setIfInBounds_toArray, List.set_cons_zero, List.set_cons_succ, List.getElem_toArray, List.getElem_cons_succ, List.getElem_cons_zero]
  refine wpAnyH_take (i := 3) (v := ?v3) (rfl) (by kernel_rfl) (by kernel_rfl) (by kernel_rfl) (fun _ _ _ h => h) ?y3 (by assumption) ?r3
  case y3 => first | (refine Or.inr ⟨?_, ?_⟩; rfl; rfl) | (refine Or.inl ⟨?_, ?_⟩; rfl; intro w hSw; (try dsimp only at hSw); go_simp; try with_reducible rfl)
  simp only [Act.put, List.setIfInBounds_toArray, List.set_cons_zero, List.set_cons_succ, List.getElem_toArray, List.getElem_cons_succ, List.getElem_cons_zero]
  refine wpAnyH_take (i := 4) (v := ?v4) (rfl) (by kernel_rfl) (by kernel_rfl) (by kernel_rfl) (fun _ _ _ h => h) ?y4 (by assumption) ?r4
  case y4 => first | (refine Or.inr ⟨?_, ?_⟩; rfl; rfl) | (refine Or.inl ⟨?_, ?_⟩; rfl; intro w hSw; (try dsimp only at hSw); go_simp; try with_reducible rfl)
  simp only [Act.put, List.setIfInBounds_toArray, List.set_cons_zero, List.set_cons_succ, List.getElem_toArray, List.getElem_cons_succ, List.getElem_cons_zero]
  refine wpAnyH_take (i := 5) (v := ?v5) (rfl) (by kernel_rfl) (by kernel_rfl) (by kernel_rfl) (fun _ _ _ h => h) ?y5 (by assumption) ?r5
  case y5 => first | (refine Or.inr ⟨?_, ?_⟩; rfl; rfl) | (refine Or.inl ⟨?_, ?_⟩; rfl; intro w hSw; (try dsimp only at hSw); go_simp; try with_reducible rfl)
  simp only [Act.put, List.setIfInBounds_toArray, List.set_cons_zero, List.set_cons_succ, List.getElem_toArray, List.getElem_cons_succ, List.getElem_cons_zero]
  refine wpAnyH_take (i := 6) (v := ?v6) (rfl) (by kernel_rfl) (by kernel_rfl) (by kernel_rfl) (fun _ _ _ h => h) ?y6 (by assumption) ?r6
  case y6 => first | (refine Or.inr ⟨?_, ?_⟩; rfl; rfl) | (refine Or.inl ⟨?_, ?_⟩; rfl; intro w hSw; (try dsimp only at hSw); go_simp; try with_reducible rfl)
  simp only [Act.put, List.setIfInBounds_toArray, List.set_cons_zero, List.set_cons_succ, List.getElem_toArray, List.getElem_cons_succ, List.getElem_cons_zero]
  refine wpAnyH_take (i := 7) (v := ?v7) (rfl) (by kernel_rfl) (by kernel_rfl) (by kernel_rfl) (fun _ _ _ h => h) ?y7 (by assumption) ?r7
  case y7 => first | (refine Or.inr ⟨?_, ?_⟩; rfl; rfl) | (refine Or.inl ⟨?_, ?_⟩; rfl; intro w hSw; (try dsimp only at hSw); go_simp; try with_reducible rfl)
  simp only [Act.put, List.setIfInBounds_toArray, List.set_cons_zero, List.set_cons_succ, List.getElem_toArray, List.getElem_cons_succ, List.getElem_cons_zero]
  refine wpAnyH_take (i := 8) (v := ?v8) (rfl) (by kernel_rfl) (by kernel_rfl) (by kernel_rfl) (fun _ _ _ h => h) ?y8 (by assumption) ?r8
  case y8 => first | (refine Or.inr ⟨?_, ?_⟩; rfl; rfl) | (refine Or.inl ⟨?_, ?_⟩; rfl; intro w hSw; (try dsimp only at hSw); go_simp; try with_reducible rfl)
  simp only [Act.put, List.setIfInBounds_toArray, List.set_cons_zero, List.set_cons_succ, List.getElem_toArray, List.getElem_cons_succ, List.getElem_cons_zero]
  refine wpAnyH_take (i := 9) (v := ?v9) (rfl) (by kernel_rfl) (by kernel_rfl) (by kernel_rfl) (fun _ _ _ h => h) ?y9 (by assumption) ?r9
  case y9 => first | (refine Or.inr ⟨?_, ?_⟩; rfl; rfl) | (refine Or.inl ⟨?_, ?_⟩; rfl; intro w hSw; (try dsimp only at hSw); go_simp; try with_reducible rfl)
  simp only [Act.put, List.setIfInBounds_toArray, List.set_cons_zero, List.set_cons_succ, List.getElem_toArray, List.getElem_cons_succ, List.getElem_cons_zero]
  refine wpAnyH_take (i := 10) (v := ?v10) (rfl) (by kernel_rfl) (by kernel_rfl) (by kernel_rfl) (fun _ _ _ h => h) ?y10 (by assumption) ?r10
  case y10 => first | (refine Or.inr ⟨?_, ?_⟩; rfl; rfl) | (refine Or.inl ⟨?_, ?_⟩; rfl; intro w hSw; (try dsimp only at hSw); go_simp; try with_reducible rfl)
  simp only [Act.put, List.setIfInBounds_toArray, List.set_cons_zero, List.set_cons_succ, List.getElem_toArray, List.getElem_cons_succ, List.getElem_cons_zero]
  refine wpAnyH_take (i := 11) (v := ?v11) (rfl) (by kernel_rfl) (by kernel_rfl) (by kernel_rfl) (fun _ _ _ h => h) ?y11 (by assumption) ?r11
  case y11 => first | (refine Or.inr ⟨?_, ?_⟩; rfl; rfl) | (refine Or.inl ⟨?_, ?_⟩; rfl; intro w hSw; (try dsimp only at hSw); go_simp; try with_reducible rfl)
  simp only [Act.put, List.setIfInBounds_toArray, List.set_cons_zero, List.set_cons_succ, List.getElem_toArray, List.getElem_cons_succ, List.getElem_cons_zero]
  refine wpAnyH_take (i := 12) (v := ?v12) (rfl) (by kernel_rfl) (by kernel_rfl) (by kernel_rfl) (fun _ _ _ h => h) ?y12 (by assumption) ?r12
  case y12 => first | (refine Or.inr ⟨?_, ?_⟩; rfl; rfl) | (refine Or.inl ⟨?_, ?_⟩; rfl; intro w hSw; (try dsimp only at hSw); go_simp; try with_reducible rfl)
  simp only [Act.put, List.setIfInBounds_toArray, List.set_cons_zero, List.set_cons_succ, List.getElem_toArray, List.getElem_cons_succ, List.getElem_cons_zero]
  refine wpAnyH_take (i := 13) (v := ?v13) (rfl) (by kernel_rfl) (by kernel_rfl) (by kernel_rfl) (fun _ _ _ h => h) ?y13 (by assumption) ?r13
  case y13 => first | (refine Or.inr ⟨?_, ?_⟩; rfl; rfl) | (refine Or.inl ⟨?_, ?_⟩; rfl; intro w hSw; (try dsimp only at hSw); go_simp; try with_reducible rfl)
  simp only [Act.put, List.setIfInBounds_toArray, List.set_cons_zero, List.set_cons_succ, List.getElem_toArray, List.getElem_cons_succ, List.getElem_cons_zero]
  refine wpAnyH_take (i := 14) (v := ?v14) (rfl) (by kernel_rfl) (by kernel_rfl) (by kernel_rfl) (fun _ _ _ h => h) ?y14 (by assumption) ?r14
  case y14 => first | (refine Or.inr ⟨?_, ?_⟩; rfl; rfl) | (refine Or.inl ⟨?_, ?_⟩; rfl; intro w hSw; (try dsimp only at hSw); go_simp; try with_reducible rfl)
  simp only [Act.put, List.setIfInBounds_toArray, List.set_cons_zero, List.set_cons_succ, List.getElem_toArray, List.getElem_cons_succ, List.getElem_cons_zero]
  refine wpAnyH_take (i := 15) (v := ?v15) (rfl) (by kernel_rfl) (by kernel_rfl) (by kernel_rfl) (fun _ _ _ h => h) ?y15 (by assumption) ?r15
  case y15 => first | (refine Or.inr ⟨?_, ?_⟩; rfl; rfl) | (refine Or.inl ⟨?_, ?_⟩; rfl; intro w hSw; (try dsimp only at hSw); go_simp; try with_reducible rfl)
  simp only [Act.put, List.setIfInBounds_toArray, List.set_cons_zero, List.set_cons_succ, List.getElem_toArray, List.getElem_cons_succ, List.getElem_cons_zero]
  refine wpAnyH_take (i := 17) (v := ?v17) (rfl) (by kernel_rfl) (by kernel_rfl) (by kernel_rfl) (fun _ _ _ h => h) ?y17 (by assumption) ?r17
  case y17 => first | (refine Or.inr ⟨?_, ?_⟩; rfl; rfl) | (refine Or.inl ⟨?_, ?_⟩; rfl; intro w hSw; (try dsimp only at hSw); go_simp; try with_reducible rfl)
  simp only [Act.put, List.setIfInBounds_toArray, List.set_cons_zero, List.set_cons_succ, List.getElem_toArray, List.getElem_cons_succ, List.getElem_cons_zero]
  refine wpAnyH_ready (rs := [16]) (by kernel_rfl) (by simp) ?_
  refine AllReadyH.cons rfl (fun K hK => ?_) AllReadyH.nil
  go_simp
  refine (sound_calls F.k F.l F.s F.a F.b F.y _).mono ?_
  rw [show Own.sound F.k F.l F.a F.b F.y = true from HS.out]
  rintro e w4 ⟨rfl, hb⟩
  have B4 := Aside0.mk (below_then B3.out B3.out.size hb)
  have X4 := Aside0.mk (At.below X3.out hb)
  have HR4 := Aside0.mk (HR3.out.below hb)
  have HT4 := Aside0.mk (HT3.out.below hb)
  clear hb hHeld
  go_wp2_with fail
  refine hK.out _ _ (encodes_held X4.out HR4.out HT4.out) (fun hHeld => ?_)
  clear hK K
  try simp only [Act.put, List.setIfInBounds_toArray, List.set_cons_zero, List.set_cons_succ, List.getElem_toArray, List.getElem_cons_succ, List.getElem_cons_zero]
  refine wpAnyH_ready (rs := [18]) (by kernel_rfl) (by simp) ?_
  refine AllReadyH.cons rfl (fun K hK => ?_) AllReadyH.nil
  go_simp
  refine (SC.out _).mono ?_
  rintro e w5 ⟨rfl, hb⟩
  have B5 := Aside0.mk (below_then B4.out B4.out.size hb)
  have X5 := Aside0.mk (At.below X4.out hb)
  have HR5 := Aside0.mk (HR4.out.below hb)
  have HT5 := Aside0.mk (HT4.out.below hb)
  clear hb hHeld
  go_wp2_with fail
  refine hK.out _ _ (encodes_held X5.out HR5.out HT5.out) (fun hHeld => ?_)
  clear hK K
  try simp only [Act.put, List.setIfInBounds_toArray, List.set_cons_zero, List.set_cons_succ, List.getElem_toArray, List.getElem_cons_succ, List.getElem_cons_zero]
  refine wpAnyH_take (i := 19) (v := ?v19) (rfl) (by kernel_rfl) (by kernel_rfl) (by kernel_rfl) (fun _ _ _ h => h) ?y19 (by assumption) ?r19
  case y19 => first | (refine Or.inr ⟨?_, ?_⟩; rfl; rfl) | (refine Or.inl ⟨?_, ?_⟩; rfl; intro w hSw; (try dsimp only at hSw); go_simp; try with_reducible rfl)
  simp only [Act.put, List.setIfInBounds_toArray, List.set_cons_zero, List.set_cons_succ, List.getElem_toArray, List.getElem_cons_succ, List.getElem_cons_zero]
  refine wpAnyH_take (i := 20) (v := ?v20) (rfl) (by kernel_rfl) (by kernel_rfl) (by kernel_rfl) (fun _ _ _ h => h) ?y20 (by assumption) ?r20
  case y20 => first | (refine Or.inr ⟨?_, ?_⟩; rfl; rfl) | (refine Or.inl ⟨?_, ?_⟩; rfl; intro w hSw; (try dsimp only at hSw); go_simp; try with_reducible rfl)
  simp only [Act.put, List.setIfInBounds_toArray, List.set_cons_zero, List.set_cons_succ, List.getElem_toArray, List.getElem_cons_succ, List.getElem_cons_zero]
  refine wpAnyH_take (i := 21) (v := ?v21) (rfl) (by kernel_rfl) (by kernel_rfl) (by kernel_rfl) (fun _ _ _ h => h) ?y21 (by assumption) ?r21
  case y21 => first | (refine Or.inr ⟨?_, ?_⟩; rfl; rfl) | (refine Or.inl ⟨?_, ?_⟩; rfl; intro w hSw; (try dsimp only at hSw); go_simp; try with_reducible rfl)
  simp only [Act.put, List.setIfInBounds_toArray, List.set_cons_zero, List.set_cons_succ, List.getElem_toArray, List.getElem_cons_succ, List.getElem_cons_zero]
  refine wpAnyH_done (by kernel_rfl) ?_ _
  clear hHeld
  go_wp2
  go_ret
  exact ⟨rfl, B5.out⟩
set_option maxHeartbeats 4000000 in
set_option maxRecDepth 100000 in
theorem encodes_no (F : Fr) (w : World) (hw : F.wf) (hs : F.sound = false) : Calls Try.prog 6 #[.agg #[.int .u8 F.k, .int .u8 F.l, .int .u16 F.s, .int .u8 F.a, .int .u8 F.b, .int .u32 F.y]] w fun e w' => e = .returned (.bool true) ∧ Below w.heap.size w w' := by
  have HW := Aside0.mk hw
  have HS := Aside0.mk hs
  have SC := Aside0.mk (fun w => rsnd_calls F w hw)
  rw [hs] at SC
  have X0 := Aside0.mk (show At (w.alloc (.cells #[.int .u8 F.k, .int .u8 F.l, .int .u16 F.s, .int .u8 F.a, .int .u8 F.b, .int .u32 F.y] 25)) w.heap.size F from blk_new _ _)
  have B0 := Aside0.mk (below_alloc (Below.refl w.heap.size w) (.cells #[.int .u8 F.k, .int .u8 F.l, .int .u16 F.s, .int .u8 F.a, .int .u8 F.b, .int .u32 F.y] 25))
  clear hw hs
  go_enter Try.func6, Try.ntmps6
  go_wp2_with fail
  refine (enc_no F.k F.l F.s F.a F.b F.y _ HS.out).mono ?_
  rintro e w1 ⟨rfl, hb⟩
  have B1 := Aside0.mk (below_then B0.out (by simp) hb)
  have X1 := Aside0.mk (At.below X0.out hb)
  clear hb
  obtain ⟨c0, c1, c2, c3, c4, c5⟩ := X1.out.cells
  go_wp2_with fail
  refine (renc_no F _ HW.out HS.out).mono ?_
  rintro e w2 ⟨rfl, hb⟩
  have HR2 : Aside0 (ReadsInt w2 .u8 none 0 []) := Aside0.mk ⟨rfl, by omega, fun h => absurd h (by omega)⟩
  have HT2 := Aside0.mk HR2.out
  have B2 := Aside0.mk (below_then B1.out B1.out.size hb)
  have X2 := Aside0.mk (At.below X1.out hb)
  clear hb c0 c1 c2 c3 c4 c5
  go_wp2_with fail
  refine wp_region_held_drew (S := fun W => W.cell? ⟨w.heap.size, 0, none⟩ = some (.int .u8 F.k) ∧ W.cell? ⟨w.heap.size, 1, none⟩ = some (.int .u8 F.l) ∧ W.cell? ⟨w.heap.size, 2, none⟩ = some (.int .u16 F.s) ∧ W.cell? ⟨w.heap.size, 3, none⟩ = some (.int .u8 F.a) ∧ W.cell? ⟨w.heap.size, 4, none⟩ = some (.int .u8 F.b) ∧ W.cell? ⟨w.heap.size, 5, none⟩ = some (.int .u32 F.y) ∧ (convert 27 9 (.slice none 0 0)).run Try.prog W = .ok (.string (strOfNums [])) W ∧ (convert 27 9 (.slice none 0 0)).run Try.prog W = .ok (.string (strOfNums [])) W) (by kernel_rfl) ?_ (fun hHeld => ?_)
  · exact encodes_held X2.out.drew (HR2.out.below (Below.refl _ _).drew) (HT2.out.below (Below.refl _ _).drew)
  refine wpAnyH_ready (rs := [0]) (by kernel_rfl) (by simp) ?_
  refine AllReadyH.cons rfl (fun K hK => ?_) AllReadyH.nil
  go_simp
  refine (known_calls _).mono ?_
  rintro e w3 ⟨rfl, hb⟩
  have B3 := Aside0.mk (below_then B2.out.drew B2.out.drew.size hb)
  have X3 := Aside0.mk (At.below (At.drew X2.out) hb)
  have HR3 := Aside0.mk ((HR2.out.below (Below.refl _ _).drew).below hb)
  have HT3 := Aside0.mk ((HT2.out.below (Below.refl _ _).drew).below hb)
  clear hb hHeld
  go_wp2_with fail
  refine hK.out _ _ (encodes_held X3.out HR3.out HT3.out) (fun hHeld => ?_)
  clear hK K
  try simp only [Act.put, List.setIfInBounds_toArray, List.set_cons_zero, List.set_cons_succ, List.getElem_toArray, List.getElem_cons_succ, List.getElem_cons_zero]
  refine wpAnyH_take (i := 1) (v := ?v1) (rfl) (by kernel_rfl) (by kernel_rfl) (by kernel_rfl) (fun _ _ _ h => h) ?y1 (by assumption) ?r1
  case y1 => first | (refine Or.inr ⟨?_, ?_⟩; rfl; rfl) | (refine Or.inl ⟨?_, ?_⟩; rfl; intro w hSw; (try dsimp only at hSw); go_simp; try with_reducible rfl)
  simp only [Act.put, List.setIfInBounds_toArray, List.set_cons_zero, List.set_cons_succ, List.getElem_toArray, List.getElem_cons_succ, List.getElem_cons_zero]
  refine wpAnyH_take (i := 2) (v := ?v2) (rfl) (by kernel_rfl) (by kernel_rfl) (by kernel_rfl) (fun _ _ _ h => h) ?y2 (by assumption) ?r2
  case y2 => first | (refine Or.inr ⟨?_, ?_⟩; rfl; rfl) | (refine Or.inl ⟨?_, ?_⟩; rfl; intro w hSw; (try dsimp only at hSw); go_simp; try with_reducible rfl)
  simp only [Act.put, List.setIfInBounds_toArray, List.set_cons_zero, List.set_cons_succ, List.getElem_toArray, List.getElem_cons_succ, List.getElem_cons_zero]
  refine wpAnyH_take (i := 3) (v := ?v3) (rfl) (by kernel_rfl) (by kernel_rfl) (by kernel_rfl) (fun _ _ _ h => h) ?y3 (by assumption) ?r3
  case y3 => first | (refine Or.inr ⟨?_, ?_⟩; rfl; rfl) | (refine Or.inl ⟨?_, ?_⟩; rfl; intro w hSw; (try dsimp only at hSw); go_simp; try with_reducible rfl)
  simp only [Act.put, List.setIfInBounds_toArray, List.set_cons_zero, List.set_cons_succ, List.getElem_toArray, List.getElem_cons_succ, List.getElem_cons_zero]
  refine wpAnyH_take (i := 4) (v := ?v4) (rfl) (by kernel_rfl) (by kernel_rfl) (by kernel_rfl) (fun _ _ _ h => h) ?y4 (by assumption) ?r4
  case y4 => first | (refine Or.inr ⟨?_, ?_⟩; rfl; rfl) | (refine Or.inl ⟨?_, ?_⟩; rfl; intro w hSw; (try dsimp only at hSw); go_simp; try with_reducible rfl)
  simp only [Act.put, List.setIfInBounds_toArray, List.set_cons_zero, List.set_cons_succ, List.getElem_toArray, List.getElem_cons_succ, List.getElem_cons_zero]
  refine wpAnyH_take (i := 5) (v := ?v5) (rfl) (by kernel_rfl) (by kernel_rfl) (by kernel_rfl) (fun _ _ _ h => h) ?y5 (by assumption) ?r5
  case y5 => first | (refine Or.inr ⟨?_, ?_⟩; rfl; rfl) | (refine Or.inl ⟨?_, ?_⟩; rfl; intro w hSw; (try dsimp only at hSw); go_simp; try with_reducible rfl)
  simp only [Act.put, List.setIfInBounds_toArray, List.set_cons_zero, List.set_cons_succ, List.getElem_toArray, List.getElem_cons_succ, List.getElem_cons_zero]
  refine wpAnyH_take (i := 6) (v := ?v6) (rfl) (by kernel_rfl) (by kernel_rfl) (by kernel_rfl) (fun _ _ _ h => h) ?y6 (by assumption) ?r6
  case y6 => first | (refine Or.inr ⟨?_, ?_⟩; rfl; rfl) | (refine Or.inl ⟨?_, ?_⟩; rfl; intro w hSw; (try dsimp only at hSw); go_simp; try with_reducible rfl)
  simp only [Act.put, List.setIfInBounds_toArray, List.set_cons_zero, List.set_cons_succ, List.getElem_toArray, List.getElem_cons_succ, List.getElem_cons_zero]
  refine wpAnyH_take (i := 7) (v := ?v7) (rfl) (by kernel_rfl) (by kernel_rfl) (by kernel_rfl) (fun _ _ _ h => h) ?y7 (by assumption) ?r7
  case y7 => first | (refine Or.inr ⟨?_, ?_⟩; rfl; rfl) | (refine Or.inl ⟨?_, ?_⟩; rfl; intro w hSw; (try dsimp only at hSw); go_simp; try with_reducible rfl)
  simp only [Act.put, List.setIfInBounds_toArray, List.set_cons_zero, List.set_cons_succ, List.getElem_toArray, List.getElem_cons_succ, List.getElem_cons_zero]
  refine wpAnyH_take (i := 8) (v := ?v8) (rfl) (by kernel_rfl) (by kernel_rfl) (by kernel_rfl) (fun _ _ _ h => h) ?y8 (by assumption) ?r8
  case y8 => first | (refine Or.inr ⟨?_, ?_⟩; rfl; rfl) | (refine Or.inl ⟨?_, ?_⟩; rfl; intro w hSw; (try dsimp only at hSw); go_simp; try with_reducible rfl)
  simp only [Act.put, List.setIfInBounds_toArray, List.set_cons_zero, List.set_cons_succ, List.getElem_toArray, List.getElem_cons_succ, List.getElem_cons_zero]
  refine wpAnyH_take (i := 9) (v := ?v9) (rfl) (by kernel_rfl) (by kernel_rfl) (by kernel_rfl) (fun _ _ _ h => h) ?y9 (by assumption) ?r9
  case y9 => first | (refine Or.inr ⟨?_, ?_⟩; rfl; rfl) | (refine Or.inl ⟨?_, ?_⟩; rfl; intro w hSw; (try dsimp only at hSw); go_simp; try with_reducible rfl)
  simp only [Act.put, List.setIfInBounds_toArray, List.set_cons_zero, List.set_cons_succ, List.getElem_toArray, List.getElem_cons_succ, List.getElem_cons_zero]
  refine wpAnyH_take (i := 10) (v := ?v10) (rfl) (by kernel_rfl) (by kernel_rfl) (by kernel_rfl) (fun _ _ _ h => h) ?y10 (by assumption) ?r10
  case y10 => first | (refine Or.inr ⟨?_, ?_⟩; rfl; rfl) | (refine Or.inl ⟨?_, ?_⟩; rfl; intro w hSw; (try dsimp only at hSw); go_simp; try with_reducible rfl)
  simp only [Act.put, List.setIfInBounds_toArray, List.set_cons_zero, List.set_cons_succ, List.getElem_toArray, List.getElem_cons_succ, List.getElem_cons_zero]
  refine wpAnyH_take (i := 11) (v := ?v11) (rfl) (by kernel_rfl) (by kernel_rfl) (by kernel_rfl) (fun _ _ _ h => h) ?y11 (by assumption) ?r11
  case y11 => first | (refine Or.inr ⟨?_, ?_⟩; rfl; rfl) | (refine Or.inl ⟨?_, ?_⟩; rfl; intro w hSw; (try dsimp only at hSw); go_simp; try with_reducible rfl)
  simp only [Act.put, List.setIfInBounds_toArray, List.set_cons_zero, List.set_cons_succ, List.getElem_toArray, List.getElem_cons_succ, List.getElem_cons_zero]
  refine wpAnyH_take (i := 12) (v := ?v12) (rfl) (by kernel_rfl) (by kernel_rfl) (by kernel_rfl) (fun _ _ _ h => h) ?y12 (by assumption) ?r12
  case y12 => first | (refine Or.inr ⟨?_, ?_⟩; rfl; rfl) | (refine Or.inl ⟨?_, ?_⟩; rfl; intro w hSw; (try dsimp only at hSw); go_simp; try with_reducible rfl)
  simp only [Act.put, List.setIfInBounds_toArray, List.set_cons_zero, List.set_cons_succ, List.getElem_toArray, List.getElem_cons_succ, List.getElem_cons_zero]
  refine wpAnyH_take (i := 13) (v := ?v13) (rfl) (by kernel_rfl) (by kernel_rfl) (by kernel_rfl) (fun _ _ _ h => h) ?y13 (by assumption) ?r13
  case y13 => first | (refine Or.inr ⟨?_, ?_⟩; rfl; rfl) | (refine Or.inl ⟨?_, ?_⟩; rfl; intro w hSw; (try dsimp only at hSw); go_simp; try with_reducible rfl)
  simp only [Act.put, List.setIfInBounds_toArray, List.set_cons_zero, List.set_cons_succ, List.getElem_toArray, List.getElem_cons_succ, List.getElem_cons_zero]
  refine wpAnyH_take (i := 14) (v := ?v14) (rfl) (by kernel_rfl) (by kernel_rfl) (by kernel_rfl) (fun _ _ _ h => h) ?y14 (by assumption) ?r14
  case y14 => first | (refine Or.inr ⟨?_, ?_⟩; rfl; rfl) | (refine Or.inl ⟨?_, ?_⟩; rfl; intro w hSw; (try dsimp only at hSw); go_simp; try with_reducible rfl)
  simp only [Act.put, List.setIfInBounds_toArray, List.set_cons_zero, List.set_cons_succ, List.getElem_toArray, List.getElem_cons_succ, List.getElem_cons_zero]
  refine wpAnyH_take (i := 15) (v := ?v15) (rfl) (by kernel_rfl) (by kernel_rfl) (by kernel_rfl) (fun _ _ _ h => h) ?y15 (by assumption) ?r15
  case y15 => first | (refine Or.inr ⟨?_, ?_⟩; rfl; rfl) | (refine Or.inl ⟨?_, ?_⟩; rfl; intro w hSw; (try dsimp only at hSw); go_simp; try with_reducible rfl)
  simp only [Act.put, List.setIfInBounds_toArray, List.set_cons_zero, List.set_cons_succ, List.getElem_toArray, List.getElem_cons_succ, List.getElem_cons_zero]
  refine wpAnyH_take (i := 17) (v := ?v17) (rfl) (by kernel_rfl) (by kernel_rfl) (by kernel_rfl) (fun _ _ _ h => h) ?y17 (by assumption) ?r17
  case y17 => first | (refine Or.inr ⟨?_, ?_⟩; rfl; rfl) | (refine Or.inl ⟨?_, ?_⟩; rfl; intro w hSw; (try dsimp only at hSw); go_simp; try with_reducible rfl)
  simp only [Act.put, List.setIfInBounds_toArray, List.set_cons_zero, List.set_cons_succ, List.getElem_toArray, List.getElem_cons_succ, List.getElem_cons_zero]
  refine wpAnyH_ready (rs := [16]) (by kernel_rfl) (by simp) ?_
  refine AllReadyH.cons rfl (fun K hK => ?_) AllReadyH.nil
  go_simp
  refine (sound_calls F.k F.l F.s F.a F.b F.y _).mono ?_
  rw [show Own.sound F.k F.l F.a F.b F.y = false from HS.out]
  rintro e w4 ⟨rfl, hb⟩
  have B4 := Aside0.mk (below_then B3.out B3.out.size hb)
  have X4 := Aside0.mk (At.below X3.out hb)
  have HR4 := Aside0.mk (HR3.out.below hb)
  have HT4 := Aside0.mk (HT3.out.below hb)
  clear hb hHeld
  go_wp2_with fail
  refine hK.out _ _ (encodes_held X4.out HR4.out HT4.out) (fun hHeld => ?_)
  clear hK K
  try simp only [Act.put, List.setIfInBounds_toArray, List.set_cons_zero, List.set_cons_succ, List.getElem_toArray, List.getElem_cons_succ, List.getElem_cons_zero]
  refine wpAnyH_ready (rs := [18]) (by kernel_rfl) (by simp) ?_
  refine AllReadyH.cons rfl (fun K hK => ?_) AllReadyH.nil
  go_simp
  refine (SC.out _).mono ?_
  rintro e w5 ⟨rfl, hb⟩
  have B5 := Aside0.mk (below_then B4.out B4.out.size hb)
  have X5 := Aside0.mk (At.below X4.out hb)
  have HR5 := Aside0.mk (HR4.out.below hb)
  have HT5 := Aside0.mk (HT4.out.below hb)
  clear hb hHeld
  go_wp2_with fail
  refine hK.out _ _ (encodes_held X5.out HR5.out HT5.out) (fun hHeld => ?_)
  clear hK K
  try simp only [Act.put, List.setIfInBounds_toArray, List.set_cons_zero, List.set_cons_succ, List.getElem_toArray, List.getElem_cons_succ, List.getElem_cons_zero]
  refine wpAnyH_take (i := 19) (v := ?v19) (rfl) (by kernel_rfl) (by kernel_rfl) (by kernel_rfl) (fun _ _ _ h => h) ?y19 (by assumption) ?r19
  case y19 => first | (refine Or.inr ⟨?_, ?_⟩; rfl; rfl) | (refine Or.inl ⟨?_, ?_⟩; rfl; intro w hSw; (try dsimp only at hSw); go_simp; try with_reducible rfl)
  simp only [Act.put, List.setIfInBounds_toArray, List.set_cons_zero, List.set_cons_succ, List.getElem_toArray, List.getElem_cons_succ, List.getElem_cons_zero]
  refine wpAnyH_take (i := 20) (v := ?v20) (rfl) (by kernel_rfl) (by kernel_rfl) (by kernel_rfl) (fun _ _ _ h => h) ?y20 (by assumption) ?r20
  case y20 => first | (refine Or.inr ⟨?_, ?_⟩; rfl; rfl) | (refine Or.inl ⟨?_, ?_⟩; rfl; intro w hSw; (try dsimp only at hSw); go_simp; try with_reducible rfl)
  simp only [Act.put, List.setIfInBounds_toArray, List.set_cons_zero, List.set_cons_succ, List.getElem_toArray, List.getElem_cons_succ, List.getElem_cons_zero]
  refine wpAnyH_take (i := 21) (v := ?v21) (rfl) (by kernel_rfl) (by kernel_rfl) (by kernel_rfl) (fun _ _ _ h => h) ?y21 (by assumption) ?r21
  case y21 => first | (refine Or.inr ⟨?_, ?_⟩; rfl; rfl) | (refine Or.inl ⟨?_, ?_⟩; rfl; intro w hSw; (try dsimp only at hSw); go_simp; try with_reducible rfl)
  simp only [Act.put, List.setIfInBounds_toArray, List.set_cons_zero, List.set_cons_succ, List.getElem_toArray, List.getElem_cons_succ, List.getElem_cons_zero]
  refine wpAnyH_done (by kernel_rfl) ?_ _
  clear hHeld
  go_wp2
  go_ret
  exact ⟨rfl, B5.out⟩
theorem wireEncodes_term (F : Fr) (w : World) (hw : F.wf) : Calls Try.prog 6 #[F.val] w fun e w' => e = .returned (.bool true) ∧ Below w.heap.size w w' := by
  rcases hs : F.sound with _ | _
  · exact encodes_no F w hw hs
  · exact encodes_ok F w hw hs
/-- A frame that comes in. -/
theorem frame_open {H : Type} {enc : TypeId × Value → H} {W : World} {base b0 : Nat} {spare : Nat → Bool} {held : Bool} {r : Reach} {v : Value} {d : DataW H} {p : List MemPlace}
    (hv : Value.okWide Try.prog W r b0 25 v) (h : DataW.Trod enc Try.prog W base spare held 25 v d p) : ∃ F : Fr, v = F.val ∧ F.wf := by
  obtain ⟨⟨l⟩, rfl, hsz⟩ := Go.WideShapes.okWide_struct Try.underlying25 hv
  obtain ⟨fuel, hf⟩ := h
  obtain ⟨xs, n, _, _, _, hlen, hg⟩ := DataW.trod_struct Try.underlying25 hf
  have C25 : Try.prog.cellsOf 25 = 6 := by kernel_rfl
  have C5 : Try.prog.cellsOf 5 = 1 := by kernel_rfl
  have C22 : Try.prog.cellsOf 22 = 1 := by kernel_rfl
  have C23 : Try.prog.cellsOf 23 = 1 := by kernel_rfl
  match l, hsz.trans C25, xs, hlen with
  | [x0, x1, x2, x3, x4, x5], _, [z0, z1, z2, z3, z4, z5], _ =>
    have h0 := hg 0 _ rfl
    have h1 := hg 1 _ rfl
    have h2 := hg 2 _ rfl
    have h3 := hg 3 _ rfl
    have h4 := hg 4 _ rfl
    have h5 := hg 5 _ rfl
    simp [Value.cells, C5, C22, C23] at h0 h1 h2 h3 h4 h5
    obtain ⟨k, e0, -, w0⟩ := DataW.trod_int Try.underlying5 h0
    obtain ⟨l, e1, -, w1⟩ := DataW.trod_int Try.underlying5 h1
    obtain ⟨s, e2, -, w2⟩ := DataW.trod_int Try.underlying22 h2
    obtain ⟨a, e3, -, w3⟩ := DataW.trod_int Try.underlying5 h3
    obtain ⟨b, e4, -, w4⟩ := DataW.trod_int Try.underlying5 h4
    obtain ⟨y, e5, -, w5⟩ := DataW.trod_int Try.underlying23 h5
    simp only [List.cons.injEq, and_true] at e0 e1 e2 e3 e4 e5
    subst e0 e1 e2 e3 e4 e5
    exact ⟨⟨k, l, s, a, b, y⟩, rfl, lo8 w0, lo8 w1, lo16 w2, lo8 w3, lo8 w4, lo32 w5⟩
end Go.Proofs.Ytamaemlhnkabcaa.Own
