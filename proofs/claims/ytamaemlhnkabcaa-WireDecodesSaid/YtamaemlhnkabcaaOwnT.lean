/- WireDecodes (layer 3). -/
import Derived.Test.YtamaemlhnkabcaaOwnS
namespace Go.Proofs.Ytamaemlhnkabcaa.Own
open Go.RowKit Go.Proofs.Ytamaemlhnkabcaa.Crc Go.Proofs.Ytamaemlhnkabcaa.PWireRefuses Go.Proofs.YtamaemlhnkabcaaW.PrintWords Go.Proofs.YtamaemlhnkabcaaW.PrintLast Go.Proofs.YtamaemlhnkabcaaW.PrintMore
set_option linter.unusedVariables false
set_option linter.unusedSimpArgs false

attribute [local go_sem high] eqA25
/-- The reference's Decode of any bytes. -/
theorem rdec_calls (A : Option Addr) (c : Nat) (l : List Int) (w : World) (hr : ReadsInt w .u8 A l.length l) (hc : l.length ≤ c) (ho : Oct l) :
    Calls Try.prog 20 #[.slice A l.length c] w (RBack w (Fr.or (dec l)) (code (dec l))) := by
  by_cases hl : l.length < 6
  · rw [dec_none (by omega) (by omega)]
    exact rdec_less A c l w hl
  · obtain ⟨ad, rfl, _⟩ := hr.2.2 (by omega)
    have hl : 6 ≤ l.length := by omega
    have hw := rfr_wf ho
    have g := ho.getD
    by_cases hk : l.getD 0 0 = 1
    · by_cases h2 : 12 ≤ l.length
      · have er : rfr l = _ := if_pos ⟨hk, h2⟩
        rcases hs : (rfr l).sound with _ | _
        · rw [dec_bad ho (fun k => by rw [hs] at k; exact absurd k.1 (by decide))]
          rw [er] at hs hw
          exact rdec_long_bad ad c l w hr hc hl _ _ _ _ _ _ _ _ _ _ (g 0) rfl (g 1) rfl (g 2) rfl (g 3) rfl (g 4) rfl (g 5) rfl (g 6) rfl (g 7) rfl (g 8) rfl (g 9) rfl hk h2 hw hs
        · by_cases hb : (rfr l).bytes = l
          · rw [dec_good ho hs hb]
            have e0 : Fr.or (some (rfr l)) = rfr l := rfl
            rw [e0]
            rw [er] at hs hw hb ⊢
            exact rdec_long_yes ad c l w hr hc hl _ _ _ _ _ _ _ _ _ _ (g 0) rfl (g 1) rfl (g 2) rfl (g 3) rfl (g 4) rfl (g 5) rfl (g 6) rfl (g 7) rfl (g 8) rfl (g 9) rfl hk h2 hw hs hb
          · rw [dec_bad ho (fun k => hb k.2)]
            have hn : ¬ (strOfNums (rfr l).bytes).toList = (strOfNums l).toList := fun k => hb (str_list (oct_bytes hw) ho k)
            rw [er] at hs hw hn
            exact rdec_long_not ad c l w hr hc hl _ _ _ _ _ _ _ _ _ _ (g 0) rfl (g 1) rfl (g 2) rfl (g 3) rfl (g 4) rfl (g 5) rfl (g 6) rfl (g 7) rfl (g 8) rfl (g 9) rfl hk h2 hw hs (bne_iff_ne.mpr hn) (beq_eq_false_iff_ne.mpr hn)
      · have er : rfr l = _ := if_neg (fun k => h2 k.2)
        rcases hs : (rfr l).sound with _ | _
        · rw [dec_bad ho (fun k => by rw [hs] at k; exact absurd k.1 (by decide))]
          rw [er] at hs hw
          exact rdec_n_bad ad c l w hr hc hl _ _ _ _ (g 0) rfl (g 1) rfl (g 2) rfl (g 3) rfl hk h2 hw hs
        · by_cases hb : (rfr l).bytes = l
          · rw [dec_good ho hs hb]
            have e0 : Fr.or (some (rfr l)) = rfr l := rfl
            rw [e0]
            rw [er] at hs hw hb ⊢
            exact rdec_n_yes ad c l w hr hc hl _ _ _ _ (g 0) rfl (g 1) rfl (g 2) rfl (g 3) rfl hk h2 hw hs hb
          · rw [dec_bad ho (fun k => hb k.2)]
            have hn : ¬ (strOfNums (rfr l).bytes).toList = (strOfNums l).toList := fun k => hb (str_list (oct_bytes hw) ho k)
            rw [er] at hs hw hn
            exact rdec_n_not ad c l w hr hc hl _ _ _ _ (g 0) rfl (g 1) rfl (g 2) rfl (g 3) rfl hk h2 hw hs (bne_iff_ne.mpr hn) (beq_eq_false_iff_ne.mpr hn)
    · have er : rfr l = _ := if_neg (fun k => hk k.1)
      rcases hs : (rfr l).sound with _ | _
      · rw [dec_bad ho (fun k => by rw [hs] at k; exact absurd k.1 (by decide))]
        rw [er] at hs hw
        exact rdec_k_bad ad c l w hr hc hl _ _ _ _ (g 0) rfl (g 1) rfl (g 2) rfl (g 3) rfl hk hw hs
      · by_cases hb : (rfr l).bytes = l
        · rw [dec_good ho hs hb]
          have e0 : Fr.or (some (rfr l)) = rfr l := rfl
          rw [e0]
          rw [er] at hs hw hb ⊢
          exact rdec_k_yes ad c l w hr hc hl _ _ _ _ (g 0) rfl (g 1) rfl (g 2) rfl (g 3) rfl hk hw hs hb
        · rw [dec_bad ho (fun k => hb k.2)]
          have hn : ¬ (strOfNums (rfr l).bytes).toList = (strOfNums l).toList := fun k => hb (str_list (oct_bytes hw) ho k)
          rw [er] at hs hw hn
          exact rdec_k_not ad c l w hr hc hl _ _ _ _ (g 0) rfl (g 1) rfl (g 2) rfl (g 3) rfl hk hw hs (bne_iff_ne.mpr hn) (beq_eq_false_iff_ne.mpr hn)
set_option maxHeartbeats 4000000 in
set_option maxRecDepth 100000 in
theorem decodes_big (A : Option Addr) (c : Nat) (l : List Int) (w : World) (hl : 100 < l.length) : Calls Try.prog 7 #[.slice A l.length c] w fun e w' => e = .returned (.bool true) ∧ Below w.heap.size w w' := by
  have e0 : decide ((l.length : Int) > 100) = true := decide_eq_true (by omega)
  clear hl
  go_enter Try.func7, Try.ntmps7
  go_wp2_with fail
  refine (known_calls _).mono ?_
  rintro e w1 ⟨rfl, hb⟩
  have B1 := Aside0.mk hb
  clear hb
  go_wp2
  go_ret
  exact ⟨rfl, B1.out⟩
set_option maxHeartbeats 4000000 in
set_option maxRecDepth 100000 in
theorem decodes_none (A : Option Addr) (c : Nat) (l : List Int) (w : World) (hr : ReadsInt w .u8 A l.length l) (hc : l.length ≤ c) (ho : Oct l) (hl : l.length ≤ 100) (hd : dec l = none) : Calls Try.prog 7 #[.slice A l.length c] w fun e w' => e = .returned (.bool true) ∧ Below w.heap.size w w' := by
  have HR := Aside0.mk hr
  have HC := Aside0.mk hc
  have HO := Aside0.mk ho
  have HD := Aside0.mk hd
  clear hd
  have e0 : decide ((l.length : Int) > 100) = false := decide_eq_false (by omega)
  clear hl hr hc ho
  go_enter Try.func7, Try.ntmps7
  go_wp2_with fail
  refine (known_calls _).mono ?_
  rintro e w1 ⟨rfl, hb⟩
  have B1 := Aside0.mk hb
  clear hb
  go_wp2_with fail
  refine (dec_calls A c l _ (HR.out.below B1.out) HC.out HO.out).mono ?_
  rw [HD.out]
  rintro e w2 ⟨he, hb⟩
  obtain rfl : e = .returned (.tuple #[.agg #[.int .u8 0, .int .u8 0, .int .u16 0, .int .u8 0, .int .u8 0, .int .u32 0], .int .u16 30]) := he
  have B2 := Aside0.mk (below_alloc (below_then B1.out B1.out.size hb) (.cells #[.int .u8 0, .int .u8 0, .int .u16 0, .int .u8 0, .int .u8 0, .int .u32 0] 25))
  have X2 := Aside0.mk (show Box (w2.alloc (.cells #[.int .u8 0, .int .u8 0, .int .u16 0, .int .u8 0, .int .u8 0, .int .u32 0] 25)) w2.heap.size 0 0 0 0 0 0 from blk_new _ _)
  clear hb
  go_wp2_with fail
  refine (rdec_calls A c l _ (HR.out.below B2.out) HC.out HO.out).mono ?_
  rw [HD.out]
  rintro e w3 ⟨he, hb⟩
  obtain rfl : e = .returned (.tuple #[.agg #[.int .u8 0, .int .u8 0, .int .u16 0, .int .u8 0, .int .u8 0, .int .u32 0], .int .i64 30]) := he
  have B3 := Aside0.mk (below_alloc (below_then B2.out B2.out.size hb) (.cells #[.int .u8 0, .int .u8 0, .int .u16 0, .int .u8 0, .int .u8 0, .int .u32 0] 25))
  have X3 := Aside0.mk ((X2.out.below hb).below (below_alloc (Below.refl _ _) (.cells #[.int .u8 0, .int .u8 0, .int .u16 0, .int .u8 0, .int .u8 0, .int .u32 0] 25)))
  have Y3 := Aside0.mk (show Box (w3.alloc (.cells #[.int .u8 0, .int .u8 0, .int .u16 0, .int .u8 0, .int .u8 0, .int .u32 0] 25)) w3.heap.size 0 0 0 0 0 0 from blk_new _ _)
  clear hb
  obtain ⟨d0, d1, d2, d3, d4, d5⟩ := X3.out.cells
  obtain ⟨c0, c1, c2, c3, c4, c5⟩ := Y3.out.cells
  go_wp2
  go_ret
  exact ⟨rfl, B3.out⟩
set_option maxHeartbeats 4000000 in
set_option maxRecDepth 100000 in
theorem decodes_some (A : Option Addr) (c : Nat) (l : List Int) (w : World) (hr : ReadsInt w .u8 A l.length l) (hc : l.length ≤ c) (ho : Oct l) (hl : l.length ≤ 100) (F : Fr) (hd : dec l = some F) : Calls Try.prog 7 #[.slice A l.length c] w fun e w' => e = .returned (.bool true) ∧ Below w.heap.size w w' := by
  have HR := Aside0.mk hr
  have HC := Aside0.mk hc
  have HO := Aside0.mk ho
  have HD := Aside0.mk hd
  clear hd
  have e0 : decide ((l.length : Int) > 100) = false := decide_eq_false (by omega)
  clear hl hr hc ho
  go_enter Try.func7, Try.ntmps7
  go_wp2_with fail
  refine (known_calls _).mono ?_
  rintro e w1 ⟨rfl, hb⟩
  have B1 := Aside0.mk hb
  clear hb
  go_wp2_with fail
  refine (dec_calls A c l _ (HR.out.below B1.out) HC.out HO.out).mono ?_
  rw [HD.out]
  rintro e w2 ⟨he, hb⟩
  obtain rfl : e = .returned (.tuple #[.agg #[.int .u8 F.k, .int .u8 F.l, .int .u16 F.s, .int .u8 F.a, .int .u8 F.b, .int .u32 F.y], .int .u16 0]) := he
  have B2 := Aside0.mk (below_alloc (below_then B1.out B1.out.size hb) (.cells #[.int .u8 F.k, .int .u8 F.l, .int .u16 F.s, .int .u8 F.a, .int .u8 F.b, .int .u32 F.y] 25))
  have X2 := Aside0.mk (show Box (w2.alloc (.cells #[.int .u8 F.k, .int .u8 F.l, .int .u16 F.s, .int .u8 F.a, .int .u8 F.b, .int .u32 F.y] 25)) w2.heap.size F.k F.l F.s F.a F.b F.y from blk_new _ _)
  clear hb
  go_wp2_with fail
  refine (rdec_calls A c l _ (HR.out.below B2.out) HC.out HO.out).mono ?_
  rw [HD.out]
  rintro e w3 ⟨he, hb⟩
  obtain rfl : e = .returned (.tuple #[.agg #[.int .u8 F.k, .int .u8 F.l, .int .u16 F.s, .int .u8 F.a, .int .u8 F.b, .int .u32 F.y], .int .i64 0]) := he
  have B3 := Aside0.mk (below_alloc (below_then B2.out B2.out.size hb) (.cells #[.int .u8 F.k, .int .u8 F.l, .int .u16 F.s, .int .u8 F.a, .int .u8 F.b, .int .u32 F.y] 25))
  have X3 := Aside0.mk ((X2.out.below hb).below (below_alloc (Below.refl _ _) (.cells #[.int .u8 F.k, .int .u8 F.l, .int .u16 F.s, .int .u8 F.a, .int .u8 F.b, .int .u32 F.y] 25)))
  have Y3 := Aside0.mk (show Box (w3.alloc (.cells #[.int .u8 F.k, .int .u8 F.l, .int .u16 F.s, .int .u8 F.a, .int .u8 F.b, .int .u32 F.y] 25)) w3.heap.size F.k F.l F.s F.a F.b F.y from blk_new _ _)
  clear hb
  obtain ⟨d0, d1, d2, d3, d4, d5⟩ := X3.out.cells
  obtain ⟨c0, c1, c2, c3, c4, c5⟩ := Y3.out.cells
  go_wp2
  go_ret
  exact ⟨rfl, B3.out⟩
theorem wireDecodes_term (A : Option Addr) (c : Nat) (l : List Int) (w : World) (hr : ReadsInt w .u8 A l.length l) (hm : l.length ≤ maxLen) (hw : ∀ x ∈ l, (Lit.int .u8 x).wf = true) (hy : l.length * 1 ≤ 140737488351232) (hn : A = none → c = 0) (hc : l.length ≤ c) :
    Calls Try.prog 7 #[.slice A l.length c] w fun e w' => e = .returned (.bool true) ∧ Below w.heap.size w w' := by
  by_cases hl : 100 < l.length
  · exact decodes_big A c l w hl
  · rcases hd : dec l with _ | F
    · exact decodes_none A c l w hr hc hw (by omega) hd
    · exact decodes_some A c l w hr hc hw (by omega) F hd
end Go.Proofs.Ytamaemlhnkabcaa.Own
