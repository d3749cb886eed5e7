/- WireOnly (layer 3). -/
import Derived.Test.YtamaemlhnkabcaaOwnI
namespace Go.Proofs.Ytamaemlhnkabcaa.Own
open Go.RowKit Go.Proofs.Ytamaemlhnkabcaa.Crc Go.Proofs.Ytamaemlhnkabcaa.PWireRefuses Go.Proofs.YtamaemlhnkabcaaW.PrintWords Go.Proofs.YtamaemlhnkabcaaW.PrintLast Go.Proofs.YtamaemlhnkabcaaW.PrintMore
set_option linter.unusedVariables false
set_option linter.unusedSimpArgs false

attribute [local go_sem high] eqA25
/-- Bytes that are a frame are this frame's bytes. -/
theorem dec_bytes {l : List Int} {F : Fr} (ho : Oct l) (h : dec l = some F) : F.bytes = l ∧ F.wf ∧ F.sound = true := by
  have g := ho.getD
  unfold dec at h
  split at h
  next x0 x1 x2 x3 x4 x5 =>
    have g0 : 0 ≤ x0 ∧ x0 ≤ 255 := g 0
    have g1 : 0 ≤ x1 ∧ x1 ≤ 255 := g 1
    have g2 : 0 ≤ x2 ∧ x2 ≤ 255 := g 2
    have g3 : 0 ≤ x3 ∧ x3 ≤ 255 := g 3
    have g4 : 0 ≤ x4 ∧ x4 ≤ 255 := g 4
    have g5 : 0 ≤ x5 ∧ x5 ≤ 255 := g 5
    unfold dec6 at h
    split at h
    next hc =>
      obtain rfl := Option.some.inj h
      refine ⟨?_, ?_, hc.2.2⟩
      · have e2 : (x2 * 256 + x3) / 256 = x2 := by omega
        have e3 : (x2 * 256 + x3) % 256 = x3 := by omega
        have e4 : (x4 * 256 + x5) / 256 = x4 := by omega
        have e5 : (x4 * 256 + x5) % 256 = x5 := by omega
        show enc x0 x1 (x2 * 256 + x3) 0 0 0 = _
        unfold enc pre
        rw [if_neg hc.2.1, e2, e3, List.append_nil]
        show [x0, x1, x2, x3] ++ [crcI [x0, x1, x2, x3] / 256, crcI [x0, x1, x2, x3] % 256] = _
        rw [hc.1, e4, e5]
        rfl
      · unfold Fr.wf; dsimp only; omega
    next => cases h
  next x0 x1 x2 x3 x4 x5 x6 x7 x8 x9 x10 x11 =>
    have g0 : 0 ≤ x0 ∧ x0 ≤ 255 := g 0
    have g1 : 0 ≤ x1 ∧ x1 ≤ 255 := g 1
    have g2 : 0 ≤ x2 ∧ x2 ≤ 255 := g 2
    have g3 : 0 ≤ x3 ∧ x3 ≤ 255 := g 3
    have g4 : 0 ≤ x4 ∧ x4 ≤ 255 := g 4
    have g5 : 0 ≤ x5 ∧ x5 ≤ 255 := g 5
    have g6 : 0 ≤ x6 ∧ x6 ≤ 255 := g 6
    have g7 : 0 ≤ x7 ∧ x7 ≤ 255 := g 7
    have g8 : 0 ≤ x8 ∧ x8 ≤ 255 := g 8
    have g9 : 0 ≤ x9 ∧ x9 ≤ 255 := g 9
    have g10 : 0 ≤ x10 ∧ x10 ≤ 255 := g 10
    have g11 : 0 ≤ x11 ∧ x11 ≤ 255 := g 11
    unfold dec12 at h
    split at h
    next hc =>
      obtain rfl := Option.some.inj h
      refine ⟨?_, ?_, hc.2.2⟩
      · have e2 : (x2 * 256 + x3) / 256 = x2 := by omega
        have e3 : (x2 * 256 + x3) % 256 = x3 := by omega
        have e6 : (x6 * 16777216 + x7 * 65536 + x8 * 256 + x9) / 16777216 = x6 := by omega
        have e7 : (x6 * 16777216 + x7 * 65536 + x8 * 256 + x9) / 65536 % 256 = x7 := by omega
        have e8 : (x6 * 16777216 + x7 * 65536 + x8 * 256 + x9) / 256 % 256 = x8 := by omega
        have e9 : (x6 * 16777216 + x7 * 65536 + x8 * 256 + x9) % 256 = x9 := by omega
        have e10 : (x10 * 256 + x11) / 256 = x10 := by omega
        have e11 : (x10 * 256 + x11) % 256 = x11 := by omega
        show enc x0 x1 (x2 * 256 + x3) x4 x5 (x6 * 16777216 + x7 * 65536 + x8 * 256 + x9) = _
        unfold enc pre
        rw [if_pos hc.2.1, e2, e3, e6, e7, e8, e9]
        show [x0, x1, x2, x3, x4, x5, x6, x7, x8, x9] ++ [crcI [x0, x1, x2, x3, x4, x5, x6, x7, x8, x9] / 256, crcI [x0, x1, x2, x3, x4, x5, x6, x7, x8, x9] % 256] = _
        rw [hc.1, e10, e11]
        rfl
      · unfold Fr.wf; dsimp only; omega
    next => cases h
  · cases h
set_option maxHeartbeats 4000000 in
set_option maxRecDepth 100000 in
theorem only_big (A : Option Addr) (c : Nat) (l : List Int) (w : World) (hr : ReadsInt w .u8 A l.length l) (hc : l.length ≤ c) (ho : Oct l) (hl : 100 < l.length) : Calls Try.prog 10 #[.slice A l.length c] w fun e w' => e = .returned (.bool true) ∧ Below w.heap.size w w' := by
  have HR := Aside0.mk hr
  have HC := Aside0.mk hc
  have HO := Aside0.mk ho
  have e0 : decide ((l.length : Int) > 100) = true := decide_eq_true (by omega)
  clear hl hr hc ho
  go_enter Try.func10, Try.ntmps10
  go_wp2_with fail
  refine (known_calls _).mono ?_
  rintro e w1 ⟨rfl, hb⟩
  have B1 := Aside0.mk hb
  clear hb
  go_wp2
  go_ret
  exact ⟨rfl, B1.out⟩
set_option maxHeartbeats 4000000 in
set_option maxRecDepth 100000 in
theorem only_none (A : Option Addr) (c : Nat) (l : List Int) (w : World) (hr : ReadsInt w .u8 A l.length l) (hc : l.length ≤ c) (ho : Oct l) (hl : l.length ≤ 100) (hd : dec l = none) : Calls Try.prog 10 #[.slice A l.length c] w fun e w' => e = .returned (.bool true) ∧ Below w.heap.size w w' := by
  have HR := Aside0.mk hr
  have HC := Aside0.mk hc
  have HO := Aside0.mk ho
  have HD := Aside0.mk hd
  clear hd
  have e0 : decide ((l.length : Int) > 100) = false := decide_eq_false (by omega)
  clear hl hr hc ho
  go_enter Try.func10, Try.ntmps10
  go_wp2_with fail
  refine (known_calls _).mono ?_
  rintro e w1 ⟨rfl, hb⟩
  have B1 := Aside0.mk hb
  clear hb
  go_wp2_with fail
  refine (dec_calls A c l _ (HR.out.below B1.out) HC.out HO.out).mono ?_
  rw [HD.out]
  rintro e w2 ⟨he, hb⟩
  obtain rfl : e = .returned (.tuple #[.agg #[.int .u8 0, .int .u8 0, .int .u16 0, .int .u8 0, .int .u8 0, .int .u32 0], .int .u16 30]) := he
  have B2 := Aside0.mk (below_alloc (below_then B1.out B1.out.size hb) (.cells #[.int .u8 0, .int .u8 0, .int .u16 0, .int .u8 0, .int .u8 0, .int .u32 0] 25))
  have X2 := Aside0.mk (show Box (w2.alloc (.cells #[.int .u8 0, .int .u8 0, .int .u16 0, .int .u8 0, .int .u8 0, .int .u32 0] 25)) w2.heap.size 0 0 0 0 0 0 from blk_new _ _)
  clear hb
  obtain ⟨d0, d1, d2, d3, d4, d5⟩ := X2.out.cells
  go_wp2
  go_ret
  exact ⟨rfl, B2.out⟩
set_option maxHeartbeats 4000000 in
set_option maxRecDepth 100000 in
theorem only_some (A : Option Addr) (c : Nat) (l : List Int) (w : World) (hr : ReadsInt w .u8 A l.length l) (hc : l.length ≤ c) (ho : Oct l) (hl : l.length ≤ 100) (F : Fr) (hd : dec l = some F) : Calls Try.prog 10 #[.slice A l.length c] w fun e w' => e = .returned (.bool true) ∧ Below w.heap.size w w' := by
  obtain ⟨hb, hw, hs⟩ := dec_bytes ho hd
  have EB := Aside0.mk hb
  have HW := Aside0.mk hw
  have HS := Aside0.mk hs
  clear hb hw hs
  have HR := Aside0.mk hr
  have HC := Aside0.mk hc
  have HO := Aside0.mk ho
  have HD := Aside0.mk hd
  clear hd
  have e0 : decide ((l.length : Int) > 100) = false := decide_eq_false (by omega)
  clear hl hr hc ho
  go_enter Try.func10, Try.ntmps10
  go_wp2_with fail
  refine (known_calls _).mono ?_
  rintro e w1 ⟨rfl, hb⟩
  have B1 := Aside0.mk hb
  clear hb
  go_wp2_with fail
  refine (dec_calls A c l _ (HR.out.below B1.out) HC.out HO.out).mono ?_
  rw [HD.out]
  rintro e w2 ⟨he, hb⟩
  obtain rfl : e = .returned (.tuple #[.agg #[.int .u8 F.k, .int .u8 F.l, .int .u16 F.s, .int .u8 F.a, .int .u8 F.b, .int .u32 F.y], .int .u16 0]) := he
  have B2 := Aside0.mk (below_alloc (below_then B1.out B1.out.size hb) (.cells #[.int .u8 F.k, .int .u8 F.l, .int .u16 F.s, .int .u8 F.a, .int .u8 F.b, .int .u32 F.y] 25))
  have X2 := Aside0.mk (show Box (w2.alloc (.cells #[.int .u8 F.k, .int .u8 F.l, .int .u16 F.s, .int .u8 F.a, .int .u8 F.b, .int .u32 F.y] 25)) w2.heap.size F.k F.l F.s F.a F.b F.y from blk_new _ _)
  clear hb
  obtain ⟨d0, d1, d2, d3, d4, d5⟩ := X2.out.cells
  go_wp2_with fail
  refine (enc_fr F _ HW.out HS.out).mono ?_
  rintro e w3 ⟨base, v, rfl, R⟩
  rw [EB.out] at R
  obtain ⟨A', c', rfl, hr, hc, hnc⟩ := R.slice
  have B3 := Aside0.mk (below_then B2.out B2.out.size R.bel)
  have C1 : (convert 27 9 (.slice A' l.length c')).run Try.prog w3 = .ok (.string (strOfNums l)) w3 := string_of_reads Try.underlying27 Try.underlying5 Try.underlying9 (h := hr)
  have C2 : (convert 27 9 (.slice A l.length c)).run Try.prog w3 = .ok (.string (strOfNums l)) w3 := string_of_reads Try.underlying27 Try.underlying5 Try.underlying9 (h := HR.out.below B3.out)
  clear R hr hc hnc d0 d1 d2 d3 d4 d5
  go_wp2
  go_ret
  exact ⟨rfl, B3.out⟩
theorem wireOnly_term (A : Option Addr) (c : Nat) (l : List Int) (w : World) (hr : ReadsInt w .u8 A l.length l) (hm : l.length ≤ maxLen) (hw : ∀ x ∈ l, (Lit.int .u8 x).wf = true) (hy : l.length * 1 ≤ 140737488351232) (hn : A = none → c = 0) (hc : l.length ≤ c) :
    Calls Try.prog 10 #[.slice A l.length c] w fun e w' => e = .returned (.bool true) ∧ Below w.heap.size w w' := by
  by_cases hl : 100 < l.length
  · exact only_big A c l w hr hc hw hl
  · rcases hd : dec l with _ | F
    · exact only_none A c l w hr hc hw (by omega) hd
    · exact only_some A c l w hr hc hw (by omega) F hd
end Go.Proofs.Ytamaemlhnkabcaa.Own
