/- known (layer 19). -/
import Derived.Test.YtladjllencanlaaOwnK
namespace Go.Proofs.Ytladjllencanlaa.Own
open Go.RowKit Go.Proofs.Ytladjllencanlaa.PFlowTells Go.Proofs.YtladjllencanlaaW.PrintWords Go.Proofs.YtladjllencanlaaW.PrintLast Go.Proofs.YtladjllencanlaaW.PrintMore
set_option linter.unusedVariables false
set_option linter.unusedSimpArgs false

theorem two_new (w : World) (a b c d e : Int) : ReadsInt ((w.alloc (.cells #[.int .u32 a, .int .u32 b] 31)).alloc (.cells #[.int .u32 c, .int .u32 d, .int .u32 e] 31)) .u32 (some ⟨w.heap.size, 0, none⟩) [a, b].length [a, b] ∧ ReadsInt ((w.alloc (.cells #[.int .u32 a, .int .u32 b] 31)).alloc (.cells #[.int .u32 c, .int .u32 d, .int .u32 e] 31)) .u32 (some ⟨w.heap.size + 1, 0, none⟩) [c, d, e].length [c, d, e] := by
  refine ⟨(reads_two (blk_new w _)).below (below_alloc (Below.refl _ _) _), ?_⟩
  have := reads_three (blk_new (w.alloc (.cells #[.int .u32 a, .int .u32 b] 31)) (.cells #[.int .u32 c, .int .u32 d, .int .u32 e] 31))
  rwa [show (w.alloc (.cells #[.int .u32 a, .int .u32 b] 31)).heap.size = w.heap.size + 1 by simp] at this
def K3 : List S40 := [⟨1, 0, 0, 0⟩, ⟨0, 0, 0, 0⟩, ⟨1, 0, 0, 0⟩]
theorem k3_flows : flowsOf K3 = [⟨0, 0, 0⟩, ⟨1, 0, 0⟩] := by
  have e : (K3.map flOf).mergeSort (fun x y => !(Go.Proofs.ltOf cf27) y x) = [⟨0, 0, 0⟩, ⟨1, 0, 0⟩, ⟨1, 0, 0⟩] := by
    have hl : ∀ x y : S27, (!(Go.Proofs.ltOf cf27) y x) = !decide (lexS y x) := fun x y => by rw [cf_lt]
    simp only [hl]
    simp [K3, flOf, List.mergeSort, List.MergeSort.Internal.splitInTwo, List.merge, lexS]
  unfold flowsOf sorted27
  rw [e]
  decide +kernel
theorem k3_reads (w : World) : Kd.C k40 (w.alloc (.cells #[.int .i64 1, .int .i64 0, .int .i64 0, .int .u32 0, .int .i64 0, .int .i64 0, .int .i64 0, .int .u32 0, .int .i64 1, .int .i64 0, .int .i64 0, .int .u32 0] 40)) (some ⟨w.heap.size, 0, none⟩) K3.length K3 :=
  reads_packets (blk_new w _) K3 (by decide) (fun j p hj i u hu => by
    have hj3 : j < 3 := (List.getElem?_eq_some_iff.1 hj).1
    match j, hj3 with
    | 0, _ =>
      obtain rfl := Option.some.inj hj
      have hi : i < 4 := (List.getElem?_eq_some_iff.1 hu).1
      match i, hi with
      | 0, _ => exact hu
      | 1, _ => exact hu
      | 2, _ => exact hu
      | 3, _ => exact hu
    | 1, _ =>
      obtain rfl := Option.some.inj hj
      have hi : i < 4 := (List.getElem?_eq_some_iff.1 hu).1
      match i, hi with
      | 0, _ => exact hu
      | 1, _ => exact hu
      | 2, _ => exact hu
      | 3, _ => exact hu
    | 2, _ =>
      obtain rfl := Option.some.inj hj
      have hi : i < 4 := (List.getElem?_eq_some_iff.1 hu).1
      match i, hi with
      | 0, _ => exact hu
      | 1, _ => exact hu
      | 2, _ => exact hu
      | 3, _ => exact hu)
theorem k1_reads (w : World) : Kd.C k40 (w.alloc (.cells #[.int .i64 1, .int .i64 0, .int .i64 0, .int .u32 0] 40)) (some ⟨w.heap.size, 0, none⟩) [(⟨1, 0, 0, 0⟩ : S40)].length [(⟨1, 0, 0, 0⟩ : S40)] :=
  reads_packets (blk_new w _) [⟨1, 0, 0, 0⟩] (by decide) (fun j p hj i u hu => by
    have hj3 : j < 1 := (List.getElem?_eq_some_iff.1 hj).1
    match j, hj3 with
    | 0, _ =>
      obtain rfl := Option.some.inj hj
      have hi : i < 4 := (List.getElem?_eq_some_iff.1 hu).1
      match i, hi with
      | 0, _ => exact hu
      | 1, _ => exact hu
      | 2, _ => exact hu
      | 3, _ => exact hu)
theorem k2_cells {W : World} {ad : Addr} (h : Kd.C k27 W (some ad) 2 [⟨0, 0, 0⟩, ⟨1, 0, 0⟩]) : W.cell? ad = some (.int .i64 0) ∧ W.cell? ⟨ad.block, ad.off + 3, none⟩ = some (.int .i64 1) ∧ W.cell? ⟨ad.block, ad.off + 3 + 1, none⟩ = some (.int .i64 0) ∧ W.cell? ⟨ad.block, ad.off + 3 + 2, none⟩ = some (.int .i64 0) := by
  obtain ⟨a0, e0, x0, x1, x2⟩ := at_T27 h 0 (by omega) (by omega)
  obtain ⟨a1, e1, y0, y1, y2⟩ := at_T27 h 1 (by omega) (by omega)
  obtain rfl := Option.some.inj e0
  obtain rfl := Option.some.inj e1
  refine ⟨?_, ?_, ?_, ?_⟩
  · simpa [Addr.add, rd_T27] using x0
  · simpa [Addr.add, rd_T27] using y0
  · simpa [Addr.add, rd_T27] using y1
  · simpa [Addr.add, rd_T27] using y2
set_option maxHeartbeats 1000000 in
set_option maxRecDepth 100000 in
theorem known_calls (w : World) : Calls Try.prog 11 #[] w fun e w' => e = .returned (.bool true) ∧ Below w.heap.size w w' := by
  go_enter Try.func11, Try.ntmps11
  go_wp2_with fail
  refine (flows_at (some ⟨w.heap.size, 0, none⟩) 3 3 K3 rfl _ (k3_reads w) (by decide) (by decide)).mono ?_
  rw [show Flws (w.alloc (.cells #[.int .i64 1, .int .i64 0, .int .i64 0, .int .u32 0, .int .i64 0, .int .i64 0, .int .i64 0, .int .u32 0, .int .i64 1, .int .i64 0, .int .i64 0, .int .u32 0] 40)) K3 = fun e w' => ∃ A c, e = .returned (.slice A (flowsOf K3).length c) ∧ Kd.C k27 w' A (flowsOf K3).length (flowsOf K3) ∧ (flowsOf K3).length ≤ c ∧ Below (w.alloc (.cells #[.int .i64 1, .int .i64 0, .int .i64 0, .int .u32 0, .int .i64 0, .int .i64 0, .int .i64 0, .int .u32 0, .int .i64 1, .int .i64 0, .int .i64 0, .int .u32 0] 40)).heap.size (w.alloc (.cells #[.int .i64 1, .int .i64 0, .int .i64 0, .int .u32 0, .int .i64 0, .int .i64 0, .int .i64 0, .int .u32 0, .int .i64 1, .int .i64 0, .int .i64 0, .int .u32 0] 40)) w' from rfl, k3_flows]
  rintro e w1 ⟨A, c, rfl, hK, hc, hb⟩
  obtain ⟨ad, rfl, _⟩ := hK.2.2 (by simp)
  have hK : Kd.C k27 w1 (some ad) 2 [⟨0, 0, 0⟩, ⟨1, 0, 0⟩] := hK
  have HK1 := Aside0.mk hK
  have B1 := Aside0.mk (below_then (below_alloc (Below.refl w.heap.size w) (.cells #[.int .i64 1, .int .i64 0, .int .i64 0, .int .u32 0, .int .i64 0, .int .i64 0, .int .i64 0, .int .u32 0, .int .i64 1, .int .i64 0, .int .i64 0, .int .u32 0] 40)) (by simp) hb)
  have HC := Aside0.mk (show 2 ≤ c from hc)
  clear hK hc hb
  go_wp2_with fail
  obtain ⟨r1, r2⟩ := two_new w1 1 3 1 2 3
  refine (sub_at (some ⟨w1.heap.size, 0, none⟩) (some ⟨w1.heap.size + 1, 0, none⟩) 2 3 2 3 [1, 3] [1, 2, 3] rfl rfl _ r1 r2 (by decide) (by decide) (b := true) (by decide)).mono ?_
  rintro e wx ⟨rfl, rfl⟩
  have HK2 := Aside0.mk (Kd.C_alloc (Kd.C_alloc HK1.out (.cells #[.int .u32 1, .int .u32 3] 31)) (.cells #[.int .u32 1, .int .u32 2, .int .u32 3] 31))
  have B2 := Aside0.mk (below_alloc (below_alloc B1.out (.cells #[.int .u32 1, .int .u32 3] 31)) (.cells #[.int .u32 1, .int .u32 2, .int .u32 3] 31))
  clear r1 r2
  generalize (w1.alloc (.cells #[.int .u32 1, .int .u32 3] 31)).alloc (.cells #[.int .u32 1, .int .u32 2, .int .u32 3] 31) = w2 at HK2 B2 ⊢
  go_wp2_with fail
  obtain ⟨r1, r2⟩ := two_new w2 1 3 1 2 3
  refine (lost_at (some ⟨w2.heap.size, 0, none⟩) (some ⟨w2.heap.size + 1, 0, none⟩) 2 3 2 3 [1, 3] [1, 2, 3] rfl rfl _ r1 r2 (by decide) (by decide) (r := 1) (by decide)).mono ?_
  rintro e wx ⟨rfl, rfl⟩
  have HK3 := Aside0.mk (Kd.C_alloc (Kd.C_alloc HK2.out (.cells #[.int .u32 1, .int .u32 3] 31)) (.cells #[.int .u32 1, .int .u32 2, .int .u32 3] 31))
  have B3 := Aside0.mk (below_alloc (below_alloc B2.out (.cells #[.int .u32 1, .int .u32 3] 31)) (.cells #[.int .u32 1, .int .u32 2, .int .u32 3] 31))
  clear r1 r2
  generalize (w2.alloc (.cells #[.int .u32 1, .int .u32 3] 31)).alloc (.cells #[.int .u32 1, .int .u32 2, .int .u32 3] 31) = w3 at HK3 B3 ⊢
  go_wp2_with fail
  obtain ⟨r1, r2⟩ := two_new w3 3 1 1 2 3
  refine (sub_at (some ⟨w3.heap.size, 0, none⟩) (some ⟨w3.heap.size + 1, 0, none⟩) 2 3 2 3 [3, 1] [1, 2, 3] rfl rfl _ r1 r2 (by decide) (by decide) (b := false) (by decide)).mono ?_
  rintro e wx ⟨rfl, rfl⟩
  have HK4 := Aside0.mk (Kd.C_alloc (Kd.C_alloc HK3.out (.cells #[.int .u32 3, .int .u32 1] 31)) (.cells #[.int .u32 1, .int .u32 2, .int .u32 3] 31))
  have B4 := Aside0.mk (below_alloc (below_alloc B3.out (.cells #[.int .u32 3, .int .u32 1] 31)) (.cells #[.int .u32 1, .int .u32 2, .int .u32 3] 31))
  clear r1 r2
  generalize (w3.alloc (.cells #[.int .u32 3, .int .u32 1] 31)).alloc (.cells #[.int .u32 1, .int .u32 2, .int .u32 3] 31) = w4 at HK4 B4 ⊢
  obtain ⟨z0, z1, z2, z3⟩ := k2_cells HK4.out
  obtain ⟨y0, y1, y2, y3⟩ := k2_cells (Kd.C_alloc HK4.out (.cells #[.int .i64 1, .int .i64 0, .int .i64 0, .int .u32 0] 40))
  have hc2 : (1 : Int) < 2 := by omega
  go_wp2_with fail
  refine (bodies_calls (some ⟨w4.heap.size, 0, none⟩) 1 1 [⟨1, 0, 0, 0⟩] rfl ⟨1, 0, 0⟩ _ (k1_reads w4) (by decide) (by decide)).mono ?_
  rintro e w5 ⟨A', c', rfl, hr, hc', hb⟩
  have B5 := Aside0.mk (below_then (below_alloc B4.out (.cells #[.int .i64 1, .int .i64 0, .int .i64 0, .int .u32 0] 40)) (by have := B4.out.size; simp; omega) hb)
  rw [show (bodiesOf [(⟨1, 0, 0, 0⟩ : S40)] ⟨1, 0, 0⟩).length = 1 by decide]
  clear hr hc' hb z0 z1 z2 z3 y0 y1 y2 y3
  go_wp2
  go_ret
  exact ⟨rfl, B5.out⟩
end Go.Proofs.Ytladjllencanlaa.Own
