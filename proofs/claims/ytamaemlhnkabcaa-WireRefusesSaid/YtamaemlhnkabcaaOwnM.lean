/- WireRefuses (layer 3). -/
import Derived.Test.YtamaemlhnkabcaaOwnK
namespace Go.Proofs.Ytamaemlhnkabcaa.Own
open Go.RowKit Go.Proofs.Ytamaemlhnkabcaa.Crc Go.Proofs.Ytamaemlhnkabcaa.PWireRefuses Go.Proofs.YtamaemlhnkabcaaW.PrintWords Go.Proofs.YtamaemlhnkabcaaW.PrintLast Go.Proofs.YtamaemlhnkabcaaW.PrintMore
set_option linter.unusedVariables false
set_option linter.unusedSimpArgs false

set_option maxHeartbeats 4000000 in
set_option maxRecDepth 100000 in
theorem ref_0 (k l s a b : Int) (w : World) (k0 : 0 ≤ k) (k1 : k ≤ 255) (l0 : 0 ≤ l) (l1 : l ≤ 255) (s0 : 0 ≤ s) (s1 : s ≤ 65535) (a0 : 0 ≤ a) (a1 : a ≤ 255) (b0 : 0 ≤ b) (b1 : b ≤ 255) (hl : ¬ (l < 3)) : Calls Try.prog 4 #[.int .u8 k, .int .u8 l, .int .u16 s, .int .u8 a, .int .u8 b] w fun e w' => e = .returned (.bool true) ∧ Below w.heap.size w w' := by
  have el : decide (l < 3) = false := decide_eq_false hl
  have HS := Aside0.mk (show Own.sound k l a b 0 = false by rcases h : Own.sound k l a b 0 with _ | _; rfl; exact absurd (sound_iff.1 h) (by omega))
  clear hl k0 k1 l0 l1 s0 s1 a0 a1 b0 b1
  have X1 := Aside0.mk (show At (w.alloc (.cells #[.int .u8 k, .int .u8 l, .int .u16 s, .int .u8 a, .int .u8 b, .int .u32 0] 25)) w.heap.size ⟨k, l, s, a, b, 0⟩ from blk_new _ _)
  go_enter Try.func4, Try.ntmps4
  go_wp2_with fail
  refine (enc_no k l s a b 0 _ HS.out).mono ?_
  rintro e w2 ⟨rfl, hb⟩
  have B2 := Aside0.mk (below_then (below_alloc (Below.refl w.heap.size w) (.cells #[.int .u8 k, .int .u8 l, .int .u16 s, .int .u8 a, .int .u8 b, .int .u32 0] 25)) (by simp) hb)
  have X2 := Aside0.mk (blk_below X1.out hb)
  clear hb
  go_wp2_with fail
  refine (known_calls _).mono ?_
  rintro e w3 ⟨rfl, hb⟩
  have B3 := Aside0.mk (below_then B2.out B2.out.size hb)
  have X3 := Aside0.mk (show At w3 w.heap.size ⟨k, l, s, a, b, 0⟩ from blk_below X2.out hb)
  clear hb
  obtain ⟨c0, c1, c2, c3, c4, c5⟩ := X3.out.cells
  go_wp2_with fail
  refine (sound_calls k l s a b 0 _).mono ?_
  rw [show Own.sound k l a b 0 = false from HS.out]
  rintro e w4 ⟨rfl, hb⟩
  have B4 := Aside0.mk (below_then B3.out B3.out.size hb)
  clear hb c0 c1 c2 c3 c4 c5
  go_wp2
  go_ret
  exact ⟨rfl, B4.out⟩
set_option maxHeartbeats 4000000 in
set_option maxRecDepth 100000 in
theorem ref_1 (k l s a b : Int) (w : World) (k0 : 0 ≤ k) (k1 : k ≤ 255) (l0 : 0 ≤ l) (l1 : l ≤ 255) (s0 : 0 ≤ s) (s1 : s ≤ 65535) (a0 : 0 ≤ a) (a1 : a ≤ 255) (b0 : 0 ≤ b) (b1 : b ≤ 255) (hl : l < 3) (hk1 : k = 1) (ha6 : ¬ (a < 6)) (hk2 : ¬ (k = 2)) (hk3 : ¬ (k = 3)) : Calls Try.prog 4 #[.int .u8 k, .int .u8 l, .int .u16 s, .int .u8 a, .int .u8 b] w fun e w' => e = .returned (.bool true) ∧ Below w.heap.size w w' := by
  have el : decide (l < 3) = true := decide_eq_true hl
  have ek1 : (k == 1) = true := beq_iff_eq.mpr hk1
  have ea6 : decide (a < 6) = false := decide_eq_false ha6
  have ek2 : (k == 2) = false := beq_eq_false_iff_ne.mpr hk2
  have ek3 : (k == 3) = false := beq_eq_false_iff_ne.mpr hk3
  have HS := Aside0.mk (show Own.sound k l a b 0 = false by rcases h : Own.sound k l a b 0 with _ | _; rfl; exact absurd (sound_iff.1 h) (by omega))
  clear hl hk1 ha6 hk2 hk3 k0 k1 l0 l1 s0 s1 a0 a1 b0 b1
  have X1 := Aside0.mk (show At (w.alloc (.cells #[.int .u8 k, .int .u8 l, .int .u16 s, .int .u8 a, .int .u8 b, .int .u32 0] 25)) w.heap.size ⟨k, l, s, a, b, 0⟩ from blk_new _ _)
  go_enter Try.func4, Try.ntmps4
  go_wp2_with fail
  refine (enc_no k l s a b 0 _ HS.out).mono ?_
  rintro e w2 ⟨rfl, hb⟩
  have B2 := Aside0.mk (below_then (below_alloc (Below.refl w.heap.size w) (.cells #[.int .u8 k, .int .u8 l, .int .u16 s, .int .u8 a, .int .u8 b, .int .u32 0] 25)) (by simp) hb)
  have X2 := Aside0.mk (blk_below X1.out hb)
  clear hb
  go_wp2_with fail
  refine (known_calls _).mono ?_
  rintro e w3 ⟨rfl, hb⟩
  have B3 := Aside0.mk (below_then B2.out B2.out.size hb)
  have X3 := Aside0.mk (show At w3 w.heap.size ⟨k, l, s, a, b, 0⟩ from blk_below X2.out hb)
  clear hb
  obtain ⟨c0, c1, c2, c3, c4, c5⟩ := X3.out.cells
  go_wp2_with fail
  refine (sound_calls k l s a b 0 _).mono ?_
  rw [show Own.sound k l a b 0 = false from HS.out]
  rintro e w4 ⟨rfl, hb⟩
  have B4 := Aside0.mk (below_then B3.out B3.out.size hb)
  clear hb c0 c1 c2 c3 c4 c5
  go_wp2
  go_ret
  exact ⟨rfl, B4.out⟩
set_option maxHeartbeats 4000000 in
set_option maxRecDepth 100000 in
theorem ref_2 (k l s a b : Int) (w : World) (k0 : 0 ≤ k) (k1 : k ≤ 255) (l0 : 0 ≤ l) (l1 : l ≤ 255) (s0 : 0 ≤ s) (s1 : s ≤ 65535) (a0 : 0 ≤ a) (a1 : a ≤ 255) (b0 : 0 ≤ b) (b1 : b ≤ 255) (hl : l < 3) (hk1 : k = 1) (ha6 : a < 6) (hb6 : ¬ (b < 6)) (hk2 : ¬ (k = 2)) (hk3 : ¬ (k = 3)) : Calls Try.prog 4 #[.int .u8 k, .int .u8 l, .int .u16 s, .int .u8 a, .int .u8 b] w fun e w' => e = .returned (.bool true) ∧ Below w.heap.size w w' := by
  have el : decide (l < 3) = true := decide_eq_true hl
  have ek1 : (k == 1) = true := beq_iff_eq.mpr hk1
  have ea6 : decide (a < 6) = true := decide_eq_true ha6
  have eb6 : decide (b < 6) = false := decide_eq_false hb6
  have ek2 : (k == 2) = false := beq_eq_false_iff_ne.mpr hk2
  have ek3 : (k == 3) = false := beq_eq_false_iff_ne.mpr hk3
  have HS := Aside0.mk (show Own.sound k l a b 0 = false by rcases h : Own.sound k l a b 0 with _ | _; rfl; exact absurd (sound_iff.1 h) (by omega))
  clear hl hk1 ha6 hb6 hk2 hk3 k0 k1 l0 l1 s0 s1 a0 a1 b0 b1
  have X1 := Aside0.mk (show At (w.alloc (.cells #[.int .u8 k, .int .u8 l, .int .u16 s, .int .u8 a, .int .u8 b, .int .u32 0] 25)) w.heap.size ⟨k, l, s, a, b, 0⟩ from blk_new _ _)
  go_enter Try.func4, Try.ntmps4
  go_wp2_with fail
  refine (enc_no k l s a b 0 _ HS.out).mono ?_
  rintro e w2 ⟨rfl, hb⟩
  have B2 := Aside0.mk (below_then (below_alloc (Below.refl w.heap.size w) (.cells #[.int .u8 k, .int .u8 l, .int .u16 s, .int .u8 a, .int .u8 b, .int .u32 0] 25)) (by simp) hb)
  have X2 := Aside0.mk (blk_below X1.out hb)
  clear hb
  go_wp2_with fail
  refine (known_calls _).mono ?_
  rintro e w3 ⟨rfl, hb⟩
  have B3 := Aside0.mk (below_then B2.out B2.out.size hb)
  have X3 := Aside0.mk (show At w3 w.heap.size ⟨k, l, s, a, b, 0⟩ from blk_below X2.out hb)
  clear hb
  obtain ⟨c0, c1, c2, c3, c4, c5⟩ := X3.out.cells
  go_wp2_with fail
  refine (sound_calls k l s a b 0 _).mono ?_
  rw [show Own.sound k l a b 0 = false from HS.out]
  rintro e w4 ⟨rfl, hb⟩
  have B4 := Aside0.mk (below_then B3.out B3.out.size hb)
  clear hb c0 c1 c2 c3 c4 c5
  go_wp2
  go_ret
  exact ⟨rfl, B4.out⟩
set_option maxHeartbeats 4000000 in
set_option maxRecDepth 100000 in
theorem ref_3 (k l s a b : Int) (w : World) (k0 : 0 ≤ k) (k1 : k ≤ 255) (l0 : 0 ≤ l) (l1 : l ≤ 255) (s0 : 0 ≤ s) (s1 : s ≤ 65535) (a0 : 0 ≤ a) (a1 : a ≤ 255) (b0 : 0 ≤ b) (b1 : b ≤ 255) (hl : l < 3) (hk1 : k = 1) (ha6 : a < 6) (hb6 : b < 6) (hne : ¬ (¬ a = b)) (hk2 : ¬ (k = 2)) (hk3 : ¬ (k = 3)) : Calls Try.prog 4 #[.int .u8 k, .int .u8 l, .int .u16 s, .int .u8 a, .int .u8 b] w fun e w' => e = .returned (.bool true) ∧ Below w.heap.size w w' := by
  have el : decide (l < 3) = true := decide_eq_true hl
  have ek1 : (k == 1) = true := beq_iff_eq.mpr hk1
  have ea6 : decide (a < 6) = true := decide_eq_true ha6
  have eb6 : decide (b < 6) = true := decide_eq_true hb6
  have ene : (a != b) = false := bne_eq_false_iff_eq.mpr (Decidable.not_not.1 hne)
  have ek2 : (k == 2) = false := beq_eq_false_iff_ne.mpr hk2
  have ek3 : (k == 3) = false := beq_eq_false_iff_ne.mpr hk3
  have HS := Aside0.mk (show Own.sound k l a b 0 = false by rcases h : Own.sound k l a b 0 with _ | _; rfl; exact absurd (sound_iff.1 h) (by omega))
  clear hl hk1 ha6 hb6 hne hk2 hk3 k0 k1 l0 l1 s0 s1 a0 a1 b0 b1
  have X1 := Aside0.mk (show At (w.alloc (.cells #[.int .u8 k, .int .u8 l, .int .u16 s, .int .u8 a, .int .u8 b, .int .u32 0] 25)) w.heap.size ⟨k, l, s, a, b, 0⟩ from blk_new _ _)
  go_enter Try.func4, Try.ntmps4
  go_wp2_with fail
  refine (enc_no k l s a b 0 _ HS.out).mono ?_
  rintro e w2 ⟨rfl, hb⟩
  have B2 := Aside0.mk (below_then (below_alloc (Below.refl w.heap.size w) (.cells #[.int .u8 k, .int .u8 l, .int .u16 s, .int .u8 a, .int .u8 b, .int .u32 0] 25)) (by simp) hb)
  have X2 := Aside0.mk (blk_below X1.out hb)
  clear hb
  go_wp2_with fail
  refine (known_calls _).mono ?_
  rintro e w3 ⟨rfl, hb⟩
  have B3 := Aside0.mk (below_then B2.out B2.out.size hb)
  have X3 := Aside0.mk (show At w3 w.heap.size ⟨k, l, s, a, b, 0⟩ from blk_below X2.out hb)
  clear hb
  obtain ⟨c0, c1, c2, c3, c4, c5⟩ := X3.out.cells
  go_wp2_with fail
  refine (sound_calls k l s a b 0 _).mono ?_
  rw [show Own.sound k l a b 0 = false from HS.out]
  rintro e w4 ⟨rfl, hb⟩
  have B4 := Aside0.mk (below_then B3.out B3.out.size hb)
  clear hb c0 c1 c2 c3 c4 c5
  go_wp2
  go_ret
  exact ⟨rfl, B4.out⟩
set_option maxHeartbeats 4000000 in
set_option maxRecDepth 100000 in
theorem ref_4 (k l s a b : Int) (w : World) (k0 : 0 ≤ k) (k1 : k ≤ 255) (l0 : 0 ≤ l) (l1 : l ≤ 255) (s0 : 0 ≤ s) (s1 : s ≤ 65535) (a0 : 0 ≤ a) (a1 : a ≤ 255) (b0 : 0 ≤ b) (b1 : b ≤ 255) (hl : l < 3) (hk1 : k = 1) (ha6 : a < 6) (hb6 : b < 6) (hne : ¬ a = b) : Calls Try.prog 4 #[.int .u8 k, .int .u8 l, .int .u16 s, .int .u8 a, .int .u8 b] w fun e w' => e = .returned (.bool true) ∧ Below w.heap.size w w' := by
  have el : decide (l < 3) = true := decide_eq_true hl
  have ek1 : (k == 1) = true := beq_iff_eq.mpr hk1
  have ea6 : decide (a < 6) = true := decide_eq_true ha6
  have eb6 : decide (b < 6) = true := decide_eq_true hb6
  have ene : (a != b) = true := bne_iff_ne.mpr hne
  have HS := Aside0.mk (show (Fr.mk k l s a b 0).sound = true from sound_iff.2 (by dsimp only; omega))
  have HW := Aside0.mk (show (Fr.mk k l s a b 0).wf by unfold Fr.wf; dsimp only; omega)
  clear hl hk1 ha6 hb6 hne k0 k1 l0 l1 s0 s1 a0 a1 b0 b1
  have X1 := Aside0.mk (show At (w.alloc (.cells #[.int .u8 k, .int .u8 l, .int .u16 s, .int .u8 a, .int .u8 b, .int .u32 0] 25)) w.heap.size ⟨k, l, s, a, b, 0⟩ from blk_new _ _)
  go_enter Try.func4, Try.ntmps4
  go_wp2_with fail
  refine (enc_fr ⟨k, l, s, a, b, 0⟩ _ HW.out HS.out).mono ?_
  rintro e w2 ⟨base, v, rfl, R⟩
  have hb := R.bel
  clear R
  have B2 := Aside0.mk (below_then (below_alloc (Below.refl w.heap.size w) (.cells #[.int .u8 k, .int .u8 l, .int .u16 s, .int .u8 a, .int .u8 b, .int .u32 0] 25)) (by simp) hb)
  have X2 := Aside0.mk (blk_below X1.out hb)
  clear hb
  go_wp2_with fail
  refine (known_calls _).mono ?_
  rintro e w3 ⟨rfl, hb⟩
  have B3 := Aside0.mk (below_then B2.out B2.out.size hb)
  have X3 := Aside0.mk (show At w3 w.heap.size ⟨k, l, s, a, b, 0⟩ from blk_below X2.out hb)
  clear hb
  obtain ⟨c0, c1, c2, c3, c4, c5⟩ := X3.out.cells
  go_wp2_with fail
  refine (sound_calls k l s a b 0 _).mono ?_
  rw [show Own.sound k l a b 0 = true from HS.out]
  rintro e w4 ⟨rfl, hb⟩
  have B4 := Aside0.mk (below_then B3.out B3.out.size hb)
  clear hb c0 c1 c2 c3 c4 c5
  go_wp2
  go_ret
  exact ⟨rfl, B4.out⟩
set_option maxHeartbeats 4000000 in
set_option maxRecDepth 100000 in
theorem ref_5 (k l s a b : Int) (w : World) (k0 : 0 ≤ k) (k1 : k ≤ 255) (l0 : 0 ≤ l) (l1 : l ≤ 255) (s0 : 0 ≤ s) (s1 : s ≤ 65535) (a0 : 0 ≤ a) (a1 : a ≤ 255) (b0 : 0 ≤ b) (b1 : b ≤ 255) (hl : l < 3) (hk1 : ¬ (k = 1)) (hk2 : k = 2) (ha0 : ¬ (a = 0)) : Calls Try.prog 4 #[.int .u8 k, .int .u8 l, .int .u16 s, .int .u8 a, .int .u8 b] w fun e w' => e = .returned (.bool true) ∧ Below w.heap.size w w' := by
  have el : decide (l < 3) = true := decide_eq_true hl
  have ek1 : (k == 1) = false := beq_eq_false_iff_ne.mpr hk1
  have ek2 : (k == 2) = true := beq_iff_eq.mpr hk2
  have ea0 : (a == 0) = false := beq_eq_false_iff_ne.mpr ha0
  have HS := Aside0.mk (show Own.sound k l a b 0 = false by rcases h : Own.sound k l a b 0 with _ | _; rfl; exact absurd (sound_iff.1 h) (by omega))
  clear hl hk1 hk2 ha0 k0 k1 l0 l1 s0 s1 a0 a1 b0 b1
  have X1 := Aside0.mk (show At (w.alloc (.cells #[.int .u8 k, .int .u8 l, .int .u16 s, .int .u8 a, .int .u8 b, .int .u32 0] 25)) w.heap.size ⟨k, l, s, a, b, 0⟩ from blk_new _ _)
  go_enter Try.func4, Try.ntmps4
  go_wp2_with fail
  refine (enc_no k l s a b 0 _ HS.out).mono ?_
  rintro e w2 ⟨rfl, hb⟩
  have B2 := Aside0.mk (below_then (below_alloc (Below.refl w.heap.size w) (.cells #[.int .u8 k, .int .u8 l, .int .u16 s, .int .u8 a, .int .u8 b, .int .u32 0] 25)) (by simp) hb)
  have X2 := Aside0.mk (blk_below X1.out hb)
  clear hb
  go_wp2_with fail
  refine (known_calls _).mono ?_
  rintro e w3 ⟨rfl, hb⟩
  have B3 := Aside0.mk (below_then B2.out B2.out.size hb)
  have X3 := Aside0.mk (show At w3 w.heap.size ⟨k, l, s, a, b, 0⟩ from blk_below X2.out hb)
  clear hb
  obtain ⟨c0, c1, c2, c3, c4, c5⟩ := X3.out.cells
  go_wp2_with fail
  refine (sound_calls k l s a b 0 _).mono ?_
  rw [show Own.sound k l a b 0 = false from HS.out]
  rintro e w4 ⟨rfl, hb⟩
  have B4 := Aside0.mk (below_then B3.out B3.out.size hb)
  clear hb c0 c1 c2 c3 c4 c5
  go_wp2
  go_ret
  exact ⟨rfl, B4.out⟩
set_option maxHeartbeats 4000000 in
set_option maxRecDepth 100000 in
theorem ref_6 (k l s a b : Int) (w : World) (k0 : 0 ≤ k) (k1 : k ≤ 255) (l0 : 0 ≤ l) (l1 : l ≤ 255) (s0 : 0 ≤ s) (s1 : s ≤ 65535) (a0 : 0 ≤ a) (a1 : a ≤ 255) (b0 : 0 ≤ b) (b1 : b ≤ 255) (hl : l < 3) (hk1 : ¬ (k = 1)) (hk2 : k = 2) (ha0 : a = 0) (hb0 : ¬ (b = 0)) : Calls Try.prog 4 #[.int .u8 k, .int .u8 l, .int .u16 s, .int .u8 a, .int .u8 b] w fun e w' => e = .returned (.bool true) ∧ Below w.heap.size w w' := by
  have el : decide (l < 3) = true := decide_eq_true hl
  have ek1 : (k == 1) = false := beq_eq_false_iff_ne.mpr hk1
  have ek2 : (k == 2) = true := beq_iff_eq.mpr hk2
  have ea0 : (a == 0) = true := beq_iff_eq.mpr ha0
  have eb0 : (b == 0) = false := beq_eq_false_iff_ne.mpr hb0
  have HS := Aside0.mk (show Own.sound k l a b 0 = false by rcases h : Own.sound k l a b 0 with _ | _; rfl; exact absurd (sound_iff.1 h) (by omega))
  clear hl hk1 hk2 ha0 hb0 k0 k1 l0 l1 s0 s1 a0 a1 b0 b1
  have X1 := Aside0.mk (show At (w.alloc (.cells #[.int .u8 k, .int .u8 l, .int .u16 s, .int .u8 a, .int .u8 b, .int .u32 0] 25)) w.heap.size ⟨k, l, s, a, b, 0⟩ from blk_new _ _)
  go_enter Try.func4, Try.ntmps4
  go_wp2_with fail
  refine (enc_no k l s a b 0 _ HS.out).mono ?_
  rintro e w2 ⟨rfl, hb⟩
  have B2 := Aside0.mk (below_then (below_alloc (Below.refl w.heap.size w) (.cells #[.int .u8 k, .int .u8 l, .int .u16 s, .int .u8 a, .int .u8 b, .int .u32 0] 25)) (by simp) hb)
  have X2 := Aside0.mk (blk_below X1.out hb)
  clear hb
  go_wp2_with fail
  refine (known_calls _).mono ?_
  rintro e w3 ⟨rfl, hb⟩
  have B3 := Aside0.mk (below_then B2.out B2.out.size hb)
  have X3 := Aside0.mk (show At w3 w.heap.size ⟨k, l, s, a, b, 0⟩ from blk_below X2.out hb)
  clear hb
  obtain ⟨c0, c1, c2, c3, c4, c5⟩ := X3.out.cells
  go_wp2_with fail
  refine (sound_calls k l s a b 0 _).mono ?_
  rw [show Own.sound k l a b 0 = false from HS.out]
  rintro e w4 ⟨rfl, hb⟩
  have B4 := Aside0.mk (below_then B3.out B3.out.size hb)
  clear hb c0 c1 c2 c3 c4 c5
  go_wp2
  go_ret
  exact ⟨rfl, B4.out⟩
set_option maxHeartbeats 4000000 in
set_option maxRecDepth 100000 in
theorem ref_7 (k l s a b : Int) (w : World) (k0 : 0 ≤ k) (k1 : k ≤ 255) (l0 : 0 ≤ l) (l1 : l ≤ 255) (s0 : 0 ≤ s) (s1 : s ≤ 65535) (a0 : 0 ≤ a) (a1 : a ≤ 255) (b0 : 0 ≤ b) (b1 : b ≤ 255) (hl : l < 3) (hk1 : ¬ (k = 1)) (hk2 : k = 2) (ha0 : a = 0) (hb0 : b = 0) : Calls Try.prog 4 #[.int .u8 k, .int .u8 l, .int .u16 s, .int .u8 a, .int .u8 b] w fun e w' => e = .returned (.bool true) ∧ Below w.heap.size w w' := by
  have el : decide (l < 3) = true := decide_eq_true hl
  have ek1 : (k == 1) = false := beq_eq_false_iff_ne.mpr hk1
  have ek2 : (k == 2) = true := beq_iff_eq.mpr hk2
  have ea0 : (a == 0) = true := beq_iff_eq.mpr ha0
  have eb0 : (b == 0) = true := beq_iff_eq.mpr hb0
  have HS := Aside0.mk (show (Fr.mk k l s a b 0).sound = true from sound_iff.2 (by dsimp only; omega))
  have HW := Aside0.mk (show (Fr.mk k l s a b 0).wf by unfold Fr.wf; dsimp only; omega)
  clear hl hk1 hk2 ha0 hb0 k0 k1 l0 l1 s0 s1 a0 a1 b0 b1
  have X1 := Aside0.mk (show At (w.alloc (.cells #[.int .u8 k, .int .u8 l, .int .u16 s, .int .u8 a, .int .u8 b, .int .u32 0] 25)) w.heap.size ⟨k, l, s, a, b, 0⟩ from blk_new _ _)
  go_enter Try.func4, Try.ntmps4
  go_wp2_with fail
  refine (enc_fr ⟨k, l, s, a, b, 0⟩ _ HW.out HS.out).mono ?_
  rintro e w2 ⟨base, v, rfl, R⟩
  have hb := R.bel
  clear R
  have B2 := Aside0.mk (below_then (below_alloc (Below.refl w.heap.size w) (.cells #[.int .u8 k, .int .u8 l, .int .u16 s, .int .u8 a, .int .u8 b, .int .u32 0] 25)) (by simp) hb)
  have X2 := Aside0.mk (blk_below X1.out hb)
  clear hb
  go_wp2_with fail
  refine (known_calls _).mono ?_
  rintro e w3 ⟨rfl, hb⟩
  have B3 := Aside0.mk (below_then B2.out B2.out.size hb)
  have X3 := Aside0.mk (show At w3 w.heap.size ⟨k, l, s, a, b, 0⟩ from blk_below X2.out hb)
  clear hb
  obtain ⟨c0, c1, c2, c3, c4, c5⟩ := X3.out.cells
  go_wp2_with fail
  refine (sound_calls k l s a b 0 _).mono ?_
  rw [show Own.sound k l a b 0 = true from HS.out]
  rintro e w4 ⟨rfl, hb⟩
  have B4 := Aside0.mk (below_then B3.out B3.out.size hb)
  clear hb c0 c1 c2 c3 c4 c5
  go_wp2
  go_ret
  exact ⟨rfl, B4.out⟩
set_option maxHeartbeats 4000000 in
set_option maxRecDepth 100000 in
theorem ref_8 (k l s a b : Int) (w : World) (k0 : 0 ≤ k) (k1 : k ≤ 255) (l0 : 0 ≤ l) (l1 : l ≤ 255) (s0 : 0 ≤ s) (s1 : s ≤ 65535) (a0 : 0 ≤ a) (a1 : a ≤ 255) (b0 : 0 ≤ b) (b1 : b ≤ 255) (hl : l < 3) (hk1 : ¬ (k = 1)) (hk2 : ¬ (k = 2)) (hk3 : k = 3) (ha0 : ¬ (a = 0)) : Calls Try.prog 4 #[.int .u8 k, .int .u8 l, .int .u16 s, .int .u8 a, .int .u8 b] w fun e w' => e = .returned (.bool true) ∧ Below w.heap.size w w' := by
  have el : decide (l < 3) = true := decide_eq_true hl
  have ek1 : (k == 1) = false := beq_eq_false_iff_ne.mpr hk1
  have ek2 : (k == 2) = false := beq_eq_false_iff_ne.mpr hk2
  have ek3 : (k == 3) = true := beq_iff_eq.mpr hk3
  have ea0 : (a == 0) = false := beq_eq_false_iff_ne.mpr ha0
  have HS := Aside0.mk (show Own.sound k l a b 0 = false by rcases h : Own.sound k l a b 0 with _ | _; rfl; exact absurd (sound_iff.1 h) (by omega))
  clear hl hk1 hk2 hk3 ha0 k0 k1 l0 l1 s0 s1 a0 a1 b0 b1
  have X1 := Aside0.mk (show At (w.alloc (.cells #[.int .u8 k, .int .u8 l, .int .u16 s, .int .u8 a, .int .u8 b, .int .u32 0] 25)) w.heap.size ⟨k, l, s, a, b, 0⟩ from blk_new _ _)
  go_enter Try.func4, Try.ntmps4
  go_wp2_with fail
  refine (enc_no k l s a b 0 _ HS.out).mono ?_
  rintro e w2 ⟨rfl, hb⟩
  have B2 := Aside0.mk (below_then (below_alloc (Below.refl w.heap.size w) (.cells #[.int .u8 k, .int .u8 l, .int .u16 s, .int .u8 a, .int .u8 b, .int .u32 0] 25)) (by simp) hb)
  have X2 := Aside0.mk (blk_below X1.out hb)
  clear hb
  go_wp2_with fail
  refine (known_calls _).mono ?_
  rintro e w3 ⟨rfl, hb⟩
  have B3 := Aside0.mk (below_then B2.out B2.out.size hb)
  have X3 := Aside0.mk (show At w3 w.heap.size ⟨k, l, s, a, b, 0⟩ from blk_below X2.out hb)
  clear hb
  obtain ⟨c0, c1, c2, c3, c4, c5⟩ := X3.out.cells
  go_wp2_with fail
  refine (sound_calls k l s a b 0 _).mono ?_
  rw [show Own.sound k l a b 0 = false from HS.out]
  rintro e w4 ⟨rfl, hb⟩
  have B4 := Aside0.mk (below_then B3.out B3.out.size hb)
  clear hb c0 c1 c2 c3 c4 c5
  go_wp2
  go_ret
  exact ⟨rfl, B4.out⟩
set_option maxHeartbeats 4000000 in
set_option maxRecDepth 100000 in
theorem ref_9 (k l s a b : Int) (w : World) (k0 : 0 ≤ k) (k1 : k ≤ 255) (l0 : 0 ≤ l) (l1 : l ≤ 255) (s0 : 0 ≤ s) (s1 : s ≤ 65535) (a0 : 0 ≤ a) (a1 : a ≤ 255) (b0 : 0 ≤ b) (b1 : b ≤ 255) (hl : l < 3) (hk1 : ¬ (k = 1)) (hk2 : ¬ (k = 2)) (hk3 : k = 3) (ha0 : a = 0) (hb0 : ¬ (b = 0)) : Calls Try.prog 4 #[.int .u8 k, .int .u8 l, .int .u16 s, .int .u8 a, .int .u8 b] w fun e w' => e = .returned (.bool true) ∧ Below w.heap.size w w' := by
  have el : decide (l < 3) = true := decide_eq_true hl
  have ek1 : (k == 1) = false := beq_eq_false_iff_ne.mpr hk1
  have ek2 : (k == 2) = false := beq_eq_false_iff_ne.mpr hk2
  have ek3 : (k == 3) = true := beq_iff_eq.mpr hk3
  have ea0 : (a == 0) = true := beq_iff_eq.mpr ha0
  have eb0 : (b == 0) = false := beq_eq_false_iff_ne.mpr hb0
  have HS := Aside0.mk (show Own.sound k l a b 0 = false by rcases h : Own.sound k l a b 0 with _ | _; rfl; exact absurd (sound_iff.1 h) (by omega))
  clear hl hk1 hk2 hk3 ha0 hb0 k0 k1 l0 l1 s0 s1 a0 a1 b0 b1
  have X1 := Aside0.mk (show At (w.alloc (.cells #[.int .u8 k, .int .u8 l, .int .u16 s, .int .u8 a, .int .u8 b, .int .u32 0] 25)) w.heap.size ⟨k, l, s, a, b, 0⟩ from blk_new _ _)
  go_enter Try.func4, Try.ntmps4
  go_wp2_with fail
  refine (enc_no k l s a b 0 _ HS.out).mono ?_
  rintro e w2 ⟨rfl, hb⟩
  have B2 := Aside0.mk (below_then (below_alloc (Below.refl w.heap.size w) (.cells #[.int .u8 k, .int .u8 l, .int .u16 s, .int .u8 a, .int .u8 b, .int .u32 0] 25)) (by simp) hb)
  have X2 := Aside0.mk (blk_below X1.out hb)
  clear hb
  go_wp2_with fail
  refine (known_calls _).mono ?_
  rintro e w3 ⟨rfl, hb⟩
  have B3 := Aside0.mk (below_then B2.out B2.out.size hb)
  have X3 := Aside0.mk (show At w3 w.heap.size ⟨k, l, s, a, b, 0⟩ from blk_below X2.out hb)
  clear hb
  obtain ⟨c0, c1, c2, c3, c4, c5⟩ := X3.out.cells
  go_wp2_with fail
  refine (sound_calls k l s a b 0 _).mono ?_
  rw [show Own.sound k l a b 0 = false from HS.out]
  rintro e w4 ⟨rfl, hb⟩
  have B4 := Aside0.mk (below_then B3.out B3.out.size hb)
  clear hb c0 c1 c2 c3 c4 c5
  go_wp2
  go_ret
  exact ⟨rfl, B4.out⟩
set_option maxHeartbeats 4000000 in
set_option maxRecDepth 100000 in
theorem ref_10 (k l s a b : Int) (w : World) (k0 : 0 ≤ k) (k1 : k ≤ 255) (l0 : 0 ≤ l) (l1 : l ≤ 255) (s0 : 0 ≤ s) (s1 : s ≤ 65535) (a0 : 0 ≤ a) (a1 : a ≤ 255) (b0 : 0 ≤ b) (b1 : b ≤ 255) (hl : l < 3) (hk1 : ¬ (k = 1)) (hk2 : ¬ (k = 2)) (hk3 : k = 3) (ha0 : a = 0) (hb0 : b = 0) : Calls Try.prog 4 #[.int .u8 k, .int .u8 l, .int .u16 s, .int .u8 a, .int .u8 b] w fun e w' => e = .returned (.bool true) ∧ Below w.heap.size w w' := by
  have el : decide (l < 3) = true := decide_eq_true hl
  have ek1 : (k == 1) = false := beq_eq_false_iff_ne.mpr hk1
  have ek2 : (k == 2) = false := beq_eq_false_iff_ne.mpr hk2
  have ek3 : (k == 3) = true := beq_iff_eq.mpr hk3
  have ea0 : (a == 0) = true := beq_iff_eq.mpr ha0
  have eb0 : (b == 0) = true := beq_iff_eq.mpr hb0
  have HS := Aside0.mk (show (Fr.mk k l s a b 0).sound = true from sound_iff.2 (by dsimp only; omega))
  have HW := Aside0.mk (show (Fr.mk k l s a b 0).wf by unfold Fr.wf; dsimp only; omega)
  clear hl hk1 hk2 hk3 ha0 hb0 k0 k1 l0 l1 s0 s1 a0 a1 b0 b1
  have X1 := Aside0.mk (show At (w.alloc (.cells #[.int .u8 k, .int .u8 l, .int .u16 s, .int .u8 a, .int .u8 b, .int .u32 0] 25)) w.heap.size ⟨k, l, s, a, b, 0⟩ from blk_new _ _)
  go_enter Try.func4, Try.ntmps4
  go_wp2_with fail
  refine (enc_fr ⟨k, l, s, a, b, 0⟩ _ HW.out HS.out).mono ?_
  rintro e w2 ⟨base, v, rfl, R⟩
  have hb := R.bel
  clear R
  have B2 := Aside0.mk (below_then (below_alloc (Below.refl w.heap.size w) (.cells #[.int .u8 k, .int .u8 l, .int .u16 s, .int .u8 a, .int .u8 b, .int .u32 0] 25)) (by simp) hb)
  have X2 := Aside0.mk (blk_below X1.out hb)
  clear hb
  go_wp2_with fail
  refine (known_calls _).mono ?_
  rintro e w3 ⟨rfl, hb⟩
  have B3 := Aside0.mk (below_then B2.out B2.out.size hb)
  have X3 := Aside0.mk (show At w3 w.heap.size ⟨k, l, s, a, b, 0⟩ from blk_below X2.out hb)
  clear hb
  obtain ⟨c0, c1, c2, c3, c4, c5⟩ := X3.out.cells
  go_wp2_with fail
  refine (sound_calls k l s a b 0 _).mono ?_
  rw [show Own.sound k l a b 0 = true from HS.out]
  rintro e w4 ⟨rfl, hb⟩
  have B4 := Aside0.mk (below_then B3.out B3.out.size hb)
  clear hb c0 c1 c2 c3 c4 c5
  go_wp2
  go_ret
  exact ⟨rfl, B4.out⟩
set_option maxHeartbeats 4000000 in
set_option maxRecDepth 100000 in
theorem ref_11 (k l s a b : Int) (w : World) (k0 : 0 ≤ k) (k1 : k ≤ 255) (l0 : 0 ≤ l) (l1 : l ≤ 255) (s0 : 0 ≤ s) (s1 : s ≤ 65535) (a0 : 0 ≤ a) (a1 : a ≤ 255) (b0 : 0 ≤ b) (b1 : b ≤ 255) (hl : l < 3) (hk1 : ¬ (k = 1)) (hk2 : ¬ (k = 2)) (hk3 : ¬ (k = 3)) : Calls Try.prog 4 #[.int .u8 k, .int .u8 l, .int .u16 s, .int .u8 a, .int .u8 b] w fun e w' => e = .returned (.bool true) ∧ Below w.heap.size w w' := by
  have el : decide (l < 3) = true := decide_eq_true hl
  have ek1 : (k == 1) = false := beq_eq_false_iff_ne.mpr hk1
  have ek2 : (k == 2) = false := beq_eq_false_iff_ne.mpr hk2
  have ek3 : (k == 3) = false := beq_eq_false_iff_ne.mpr hk3
  have HS := Aside0.mk (show Own.sound k l a b 0 = false by rcases h : Own.sound k l a b 0 with _ | _; rfl; exact absurd (sound_iff.1 h) (by omega))
  clear hl hk1 hk2 hk3 k0 k1 l0 l1 s0 s1 a0 a1 b0 b1
  have X1 := Aside0.mk (show At (w.alloc (.cells #[.int .u8 k, .int .u8 l, .int .u16 s, .int .u8 a, .int .u8 b, .int .u32 0] 25)) w.heap.size ⟨k, l, s, a, b, 0⟩ from blk_new _ _)
  go_enter Try.func4, Try.ntmps4
  go_wp2_with fail
  refine (enc_no k l s a b 0 _ HS.out).mono ?_
  rintro e w2 ⟨rfl, hb⟩
  have B2 := Aside0.mk (below_then (below_alloc (Below.refl w.heap.size w) (.cells #[.int .u8 k, .int .u8 l, .int .u16 s, .int .u8 a, .int .u8 b, .int .u32 0] 25)) (by simp) hb)
  have X2 := Aside0.mk (blk_below X1.out hb)
  clear hb
  go_wp2_with fail
  refine (known_calls _).mono ?_
  rintro e w3 ⟨rfl, hb⟩
  have B3 := Aside0.mk (below_then B2.out B2.out.size hb)
  have X3 := Aside0.mk (show At w3 w.heap.size ⟨k, l, s, a, b, 0⟩ from blk_below X2.out hb)
  clear hb
  obtain ⟨c0, c1, c2, c3, c4, c5⟩ := X3.out.cells
  go_wp2_with fail
  refine (sound_calls k l s a b 0 _).mono ?_
  rw [show Own.sound k l a b 0 = false from HS.out]
  rintro e w4 ⟨rfl, hb⟩
  have B4 := Aside0.mk (below_then B3.out B3.out.size hb)
  clear hb c0 c1 c2 c3 c4 c5
  go_wp2
  go_ret
  exact ⟨rfl, B4.out⟩
theorem wireRefuses_term (k l s a b : Int) (w : World) (hk : (Lit.int .u8 k).wf = true) (hl' : (Lit.int .u8 l).wf = true) (hs : (Lit.int .u16 s).wf = true) (ha : (Lit.int .u8 a).wf = true) (hb : (Lit.int .u8 b).wf = true) :
    Calls Try.prog 4 #[.int .u8 k, .int .u8 l, .int .u16 s, .int .u8 a, .int .u8 b] w fun e w' => e = .returned (.bool true) ∧ Below w.heap.size w w' := by
  obtain ⟨k0, k1⟩ := lo8 hk
  obtain ⟨l0, l1⟩ := lo8 hl'
  obtain ⟨s0, s1⟩ := lo16 hs
  obtain ⟨a0, a1⟩ := lo8 ha
  obtain ⟨b0, b1⟩ := lo8 hb
  by_cases hl : l < 3
  · by_cases hk1 : k = 1
    · by_cases ha6 : a < 6
      · by_cases hb6 : b < 6
        · by_cases hne : ¬ a = b
          · exact ref_4 k l s a b w k0 k1 l0 l1 s0 s1 a0 a1 b0 b1 hl hk1 ha6 hb6 hne
          · have hk2 : ¬ (k = 2) := by omega
            have hk3 : ¬ (k = 3) := by omega
            exact ref_3 k l s a b w k0 k1 l0 l1 s0 s1 a0 a1 b0 b1 hl hk1 ha6 hb6 hne hk2 hk3
        · have hk2 : ¬ (k = 2) := by omega
          have hk3 : ¬ (k = 3) := by omega
          exact ref_2 k l s a b w k0 k1 l0 l1 s0 s1 a0 a1 b0 b1 hl hk1 ha6 hb6 hk2 hk3
      · have hk2 : ¬ (k = 2) := by omega
        have hk3 : ¬ (k = 3) := by omega
        exact ref_1 k l s a b w k0 k1 l0 l1 s0 s1 a0 a1 b0 b1 hl hk1 ha6 hk2 hk3
    · by_cases hk2 : k = 2
      · by_cases ha0 : a = 0
        · by_cases hb0 : b = 0
          · exact ref_7 k l s a b w k0 k1 l0 l1 s0 s1 a0 a1 b0 b1 hl hk1 hk2 ha0 hb0
          · exact ref_6 k l s a b w k0 k1 l0 l1 s0 s1 a0 a1 b0 b1 hl hk1 hk2 ha0 hb0
        · exact ref_5 k l s a b w k0 k1 l0 l1 s0 s1 a0 a1 b0 b1 hl hk1 hk2 ha0
      · by_cases hk3 : k = 3
        · by_cases ha0 : a = 0
          · by_cases hb0 : b = 0
            · exact ref_10 k l s a b w k0 k1 l0 l1 s0 s1 a0 a1 b0 b1 hl hk1 hk2 hk3 ha0 hb0
            · exact ref_9 k l s a b w k0 k1 l0 l1 s0 s1 a0 a1 b0 b1 hl hk1 hk2 hk3 ha0 hb0
          · exact ref_8 k l s a b w k0 k1 l0 l1 s0 s1 a0 a1 b0 b1 hl hk1 hk2 hk3 ha0
        · exact ref_11 k l s a b w k0 k1 l0 l1 s0 s1 a0 a1 b0 b1 hl hk1 hk2 hk3
  · exact ref_0 k l s a b w k0 k1 l0 l1 s0 s1 a0 a1 b0 b1 hl
end Go.Proofs.Ytamaemlhnkabcaa.Own
