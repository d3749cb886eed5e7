/- Plain laws of frames and bytes; WireLong (layer 3). -/
import Derived.Test.YtamaemlhnkabcaaOwnG
namespace Go.Proofs.Ytamaemlhnkabcaa.Own
open Go.RowKit Go.Proofs.Ytamaemlhnkabcaa.Crc Go.Proofs.Ytamaemlhnkabcaa.PWireRefuses Go.Proofs.YtamaemlhnkabcaaW.PrintWords Go.Proofs.YtamaemlhnkabcaaW.PrintLast Go.Proofs.YtamaemlhnkabcaaW.PrintMore
set_option linter.unusedVariables false
set_option linter.unusedSimpArgs false


theorem sound_iff {k l a b y : Int} : sound k l a b y = true ↔ l < 3 ∧ ((k = 1 ∧ a < 6 ∧ b < 6 ∧ a ≠ b) ∨ ((k = 2 ∨ k = 3) ∧ a = 0 ∧ b = 0 ∧ y = 0)) := by
  have hm : mx a b < 6 ↔ a < 6 ∧ b < 6 := by unfold mx; first | omega | (split <;> omega)
  unfold sound wire_Sound.f
  by_cases h1 : k = 1
  · subst h1
    by_cases h2 : l < 3
    · by_cases h3 : mx a b < 6
      · simp [h2, h3, hm.1 h3]
      · have : ¬ (a < 6 ∧ b < 6) := fun h => h3 (hm.2 h)
        simp only [if_true, if_pos h2, if_neg h3, Option.getD_some]
        constructor
        · intro h; cases h
        · intro h; omega
    · simp only [if_true, if_neg h2, Option.getD_some]
      constructor
      · intro h; cases h
      · intro h; omega
  · by_cases h4 : k = 2
    · subst h4
      by_cases h2 : l < 3
      · simp [h2]
      · simp [h2]
    · by_cases h5 : k = 3
      · subst h5
        by_cases h2 : l < 3
        · simp [h2]
        · simp [h2]
      · simp [h1, h4, h5]
theorem mk_wf {k l s a b y : Int} (k0 : 0 ≤ k) (k1 : k ≤ 255) (l0 : 0 ≤ l) (l1 : l ≤ 255) (s0 : 0 ≤ s) (s1 : s ≤ 65535) (a0 : 0 ≤ a) (a1 : a ≤ 255) (b0 : 0 ≤ b) (b1 : b ≤ 255) (y0 : 0 ≤ y) (y1 : y ≤ 4294967295) : (mk k l s a b y).wf := by
  unfold mk Fr.wf
  split <;> dsimp only <;> omega
theorem mk_sound {k l s a b y : Int} (k0 : 0 ≤ k) (a0 : 0 ≤ a) (b0 : 0 ≤ b) : (mk k l s a b y).sound = true := by
  unfold mk Fr.sound
  split
  · exact sound_iff.2 ⟨by dsimp only; omega, .inl ⟨rfl, by dsimp only; omega, by dsimp only; omega, by dsimp only; omega⟩⟩
  · exact sound_iff.2 ⟨by dsimp only; omega, .inr ⟨by dsimp only; omega, rfl, rfl, rfl⟩⟩
theorem bytes_len (F : Fr) : F.bytes.length = if F.k = 1 then 12 else 6 := by
  unfold Fr.bytes enc pre
  split <;> rfl
theorem enc_fr (F : Fr) (w : World) (hw : F.wf) (hs : F.sound = true) : Calls Try.prog 14 #[.agg #[.int .u8 F.k, .int .u8 F.l, .int .u16 F.s, .int .u8 F.a, .int .u8 F.b, .int .u32 F.y]] w (Enc w F.bytes) := by
  obtain ⟨⟨k0, k1⟩, ⟨l0, l1⟩, ⟨s0, s1⟩, ⟨a0, a1⟩, ⟨b0, b1⟩, y0, y1⟩ := hw
  by_cases hk : F.k = 1
  · exact enc_long _ _ _ _ _ _ w k0 k1 l0 l1 s0 s1 a0 a1 b0 b1 y0 y1 hs hk
  · exact enc_short _ _ _ _ _ _ w k0 k1 l0 l1 s0 s1 a0 a1 b0 b1 y0 y1 hs hk
theorem make_fr (k l s a b y : Int) (w : World) (k0 : 0 ≤ k) (k1 : k ≤ 255) (l0 : 0 ≤ l) (l1 : l ≤ 255) (s0 : 0 ≤ s) (s1 : s ≤ 65535) (a0 : 0 ≤ a) (a1 : a ≤ 255) (b0 : 0 ≤ b) (b1 : b ≤ 255) (y0 : 0 ≤ y) (y1 : y ≤ 4294967295) (F : Fr) (hF : mk k l s a b y = F) :
    Calls Try.prog 13 #[.int .u8 k, .int .u8 l, .int .u16 s, .int .u8 a, .int .u8 b, .int .u32 y] w fun e w' => e = .returned (.agg #[.int .u8 F.k, .int .u8 F.l, .int .u16 F.s, .int .u8 F.a, .int .u8 F.b, .int .u32 F.y]) ∧ Below w.heap.size w w' := by
  subst hF
  exact make_calls k l s a b y w k0 k1 l0 l1 s0 s1 a0 a1 b0 b1 y0 y1
set_option maxHeartbeats 4000000 in
set_option maxRecDepth 100000 in
theorem long_law (k l s a b y : Int) (w : World) (k0 : 0 ≤ k) (k1 : k ≤ 255) (l0 : 0 ≤ l) (l1 : l ≤ 255) (s0 : 0 ≤ s) (s1 : s ≤ 65535) (a0 : 0 ≤ a) (a1 : a ≤ 255) (b0 : 0 ≤ b) (b1 : b ≤ 255) (y0 : 0 ≤ y) (y1 : y ≤ 4294967295) : Calls Try.prog 11 #[.int .u8 k, .int .u8 l, .int .u16 s, .int .u8 a, .int .u8 b, .int .u32 y] w fun e w' => e = .returned (.bool true) ∧ Below w.heap.size w w' := by
  have HW := Aside0.mk (mk_wf (k := k) (l := l) (s := s) (a := a) (b := b) (y := y) k0 k1 l0 l1 s0 s1 a0 a1 b0 b1 y0 y1)
  have HS := Aside0.mk (mk_sound (k := k) (l := l) (s := s) (a := a) (b := b) (y := y) k0 a0 b0)
  have MK := Aside0.mk (fun (w : World) (F : Fr) (hF : mk k l s a b y = F) => make_fr k l s a b y w k0 k1 l0 l1 s0 s1 a0 a1 b0 b1 y0 y1 F hF)
  generalize hF : mk k l s a b y = F at HW HS
  have HF := Aside0.mk hF
  clear hF k0 k1 l0 l1 s0 s1 a0 a1 b0 b1 y0 y1
  go_enter Try.func11, Try.ntmps11
  go_wp2_with fail
  refine (MK.out _ F HF.out).mono ?_
  rintro e w1 ⟨rfl, hb⟩
  have B1 := Aside0.mk (below_alloc hb (.cells #[.int .u8 F.k, .int .u8 F.l, .int .u16 F.s, .int .u8 F.a, .int .u8 F.b, .int .u32 F.y] 25))
  have X1 := Aside0.mk (show At (w1.alloc (.cells #[.int .u8 F.k, .int .u8 F.l, .int .u16 F.s, .int .u8 F.a, .int .u8 F.b, .int .u32 F.y] 25)) w1.heap.size F from blk_new _ _)
  clear hb
  go_wp2_with fail
  refine (enc_fr F _ HW.out HS.out).mono ?_
  rintro e w2 ⟨base, v, rfl, R⟩
  obtain ⟨A, c, rfl, hr, hc, hnc⟩ := R.slice
  have R2 := Aside0.mk R
  have HR := Aside0.mk hr
  have HC := Aside0.mk hc
  have HN := Aside0.mk hnc
  have B2 := Aside0.mk (below_then B1.out B1.out.size R.bel)
  have X2 := Aside0.mk (X1.out.below R.bel)
  clear R hr hc hnc
  obtain ⟨d0, d1, d2, d3, d4, d5⟩ := X2.out.cells
  have BL := bytes_len F
  by_cases hk : F.k = 1
  · rw [if_pos hk] at BL
    have e1 : (F.k == 1) = true := beq_iff_eq.mpr hk
    clear hk
    rw [BL]
    clear BL
    go_wp2_with fail
    refine (known_calls _).mono ?_
    rintro e w3 ⟨rfl, hb⟩
    have B3 := Aside0.mk (below_then B2.out B2.out.size hb)
    clear hb d0 d1 d2 d3 d4 d5
    go_wp2
    go_ret
    exact ⟨rfl, B3.out⟩
  · rw [if_neg hk] at BL
    have e1 : (F.k == 1) = false := beq_eq_false_iff_ne.mpr hk
    clear hk
    rw [BL]
    clear BL
    go_wp2_with fail
    refine (known_calls _).mono ?_
    rintro e w3 ⟨rfl, hb⟩
    have B3 := Aside0.mk (below_then B2.out B2.out.size hb)
    clear hb d0 d1 d2 d3 d4 d5
    go_wp2
    go_ret
    exact ⟨rfl, B3.out⟩
theorem wireLong_term (k l s a b y : Int) (w : World) (hk : (Lit.int .u8 k).wf = true) (hl : (Lit.int .u8 l).wf = true) (hs : (Lit.int .u16 s).wf = true) (ha : (Lit.int .u8 a).wf = true) (hb : (Lit.int .u8 b).wf = true) (hy : (Lit.int .u32 y).wf = true) :
    Calls Try.prog 11 #[.int .u8 k, .int .u8 l, .int .u16 s, .int .u8 a, .int .u8 b, .int .u32 y] w fun e w' => e = .returned (.bool true) ∧ Below w.heap.size w w' :=
  long_law k l s a b y w (lo8 hk).1 (lo8 hk).2 (lo8 hl).1 (lo8 hl).2 (lo16 hs).1 (lo16 hs).2 (lo8 ha).1 (lo8 ha).2 (lo8 hb).1 (lo8 hb).2 (lo32 hy).1 (lo32 hy).2
end Go.Proofs.Ytamaemlhnkabcaa.Own
