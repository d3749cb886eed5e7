/- WireShort (layer 3). -/
import Derived.Test.YtamaemlhnkabcaaOwnH
namespace Go.Proofs.Ytamaemlhnkabcaa.Own
open Go.RowKit Go.Proofs.Ytamaemlhnkabcaa.Crc Go.Proofs.Ytamaemlhnkabcaa.PWireRefuses Go.Proofs.YtamaemlhnkabcaaW.PrintWords Go.Proofs.YtamaemlhnkabcaaW.PrintLast Go.Proofs.YtamaemlhnkabcaaW.PrintMore
set_option linter.unusedVariables false
set_option linter.unusedSimpArgs false

attribute [local go_sem high] eqA25
theorem dec_some {l : List Int} {F : Fr} (h : dec l = some F) : (l.length = 6 ∧ ¬ F.k = 1) ∨ (l.length = 12 ∧ F.k = 1) := by
  unfold dec at h
  split at h
  · unfold dec6 at h
    split at h
    next hc =>
      obtain rfl := Option.some.inj h
      exact .inl ⟨rfl, hc.2.1⟩
    next => cases h
  · unfold dec12 at h
    split at h
    next hc =>
      obtain rfl := Option.some.inj h
      exact .inr ⟨rfl, hc.2.1⟩
    next => cases h
  · cases h
set_option maxHeartbeats 4000000 in
set_option maxRecDepth 100000 in
theorem short_big (A : Option Addr) (c : Nat) (l : List Int) (w : World) (hr : ReadsInt w .u8 A l.length l) (hc : l.length ≤ c) (ho : Oct l) (hl : 100 < l.length) : Calls Try.prog 12 #[.slice A l.length c] w fun e w' => e = .returned (.bool true) ∧ Below w.heap.size w w' := by
  have HR := Aside0.mk hr
  have HC := Aside0.mk hc
  have HO := Aside0.mk ho
  have e0 : decide ((l.length : Int) > 100) = true := decide_eq_true (by omega)
  clear hl hr hc ho
  go_enter Try.func12, Try.ntmps12
  go_wp2_with fail
  refine (known_calls _).mono ?_
  rintro e w1 ⟨rfl, hb⟩
  have B1 := Aside0.mk hb
  clear hb
  go_wp2
  go_ret
  exact ⟨rfl, B1.out⟩
set_option maxHeartbeats 4000000 in
set_option maxRecDepth 100000 in
theorem short_other (A : Option Addr) (c : Nat) (l : List Int) (w : World) (hr : ReadsInt w .u8 A l.length l) (hc : l.length ≤ c) (ho : Oct l) (hl : l.length ≤ 100) (h6 : ¬ l.length = 6) (h12 : ¬ l.length = 12) (hd : dec l = none) : Calls Try.prog 12 #[.slice A l.length c] w fun e w' => e = .returned (.bool true) ∧ Below w.heap.size w w' := by
  have HR := Aside0.mk hr
  have HC := Aside0.mk hc
  have HO := Aside0.mk ho
  have HD := Aside0.mk hd
  clear hd
  have f1 : ((l.length : Int) != 6) = true := bne_iff_ne.mpr (by omega)
  have f2 : ((l.length : Int) != 12) = true := bne_iff_ne.mpr (by omega)
  clear h6 h12
  have e0 : decide ((l.length : Int) > 100) = false := decide_eq_false (by omega)
  clear hl hr hc ho
  go_enter Try.func12, Try.ntmps12
  go_wp2_with fail
  refine (known_calls _).mono ?_
  rintro e w1 ⟨rfl, hb⟩
  have B1 := Aside0.mk hb
  clear hb
  go_wp2_with fail
  refine (dec_calls A c l _ (HR.out.below B1.out) HC.out HO.out).mono ?_
  rw [HD.out]
  rintro e w2 ⟨he, hb⟩
  obtain rfl : e = .returned (.tuple #[.agg #[.int .u8 0, .int .u8 0, .int .u16 0, .int .u8 0, .int .u8 0, .int .u32 0], .int .u16 30]) := he
  have B2 := Aside0.mk (below_alloc (below_then B1.out B1.out.size hb) (.cells #[.int .u8 0, .int .u8 0, .int .u16 0, .int .u8 0, .int .u8 0, .int .u32 0] 25))
  have X2 := Aside0.mk (show Box (w2.alloc (.cells #[.int .u8 0, .int .u8 0, .int .u16 0, .int .u8 0, .int .u8 0, .int .u32 0] 25)) w2.heap.size 0 0 0 0 0 0 from blk_new _ _)
  clear hb
  obtain ⟨d0, d1, d2, d3, d4, d5⟩ := X2.out.cells
  go_wp2
  go_ret
  exact ⟨rfl, B2.out⟩
set_option maxHeartbeats 4000000 in
set_option maxRecDepth 100000 in
theorem short_six (A : Option Addr) (c : Nat) (l : List Int) (w : World) (hr : ReadsInt w .u8 A l.length l) (hc : l.length ≤ c) (ho : Oct l) (hl : l.length ≤ 100) (h6 : l.length = 6) (hd : dec l = none) : Calls Try.prog 12 #[.slice A l.length c] w fun e w' => e = .returned (.bool true) ∧ Below w.heap.size w w' := by
  have HR := Aside0.mk hr
  have HC := Aside0.mk hc
  have HO := Aside0.mk ho
  have HD := Aside0.mk hd
  clear hd
  have f1 : ((l.length : Int) != 6) = false := bne_eq_false_iff_eq.mpr (by omega)
  clear h6
  have e0 : decide ((l.length : Int) > 100) = false := decide_eq_false (by omega)
  clear hl hr hc ho
  go_enter Try.func12, Try.ntmps12
  go_wp2_with fail
  refine (known_calls _).mono ?_
  rintro e w1 ⟨rfl, hb⟩
  have B1 := Aside0.mk hb
  clear hb
  go_wp2_with fail
  refine (dec_calls A c l _ (HR.out.below B1.out) HC.out HO.out).mono ?_
  rw [HD.out]
  rintro e w2 ⟨he, hb⟩
  obtain rfl : e = .returned (.tuple #[.agg #[.int .u8 0, .int .u8 0, .int .u16 0, .int .u8 0, .int .u8 0, .int .u32 0], .int .u16 30]) := he
  have B2 := Aside0.mk (below_alloc (below_then B1.out B1.out.size hb) (.cells #[.int .u8 0, .int .u8 0, .int .u16 0, .int .u8 0, .int .u8 0, .int .u32 0] 25))
  have X2 := Aside0.mk (show Box (w2.alloc (.cells #[.int .u8 0, .int .u8 0, .int .u16 0, .int .u8 0, .int .u8 0, .int .u32 0] 25)) w2.heap.size 0 0 0 0 0 0 from blk_new _ _)
  clear hb
  obtain ⟨d0, d1, d2, d3, d4, d5⟩ := X2.out.cells
  go_wp2
  go_ret
  exact ⟨rfl, B2.out⟩
set_option maxHeartbeats 4000000 in
set_option maxRecDepth 100000 in
theorem short_twelve (A : Option Addr) (c : Nat) (l : List Int) (w : World) (hr : ReadsInt w .u8 A l.length l) (hc : l.length ≤ c) (ho : Oct l) (hl : l.length ≤ 100) (h12 : l.length = 12) (hd : dec l = none) : Calls Try.prog 12 #[.slice A l.length c] w fun e w' => e = .returned (.bool true) ∧ Below w.heap.size w w' := by
  have HR := Aside0.mk hr
  have HC := Aside0.mk hc
  have HO := Aside0.mk ho
  have HD := Aside0.mk hd
  clear hd
  have f1 : ((l.length : Int) != 6) = true := bne_iff_ne.mpr (by omega)
  have f2 : ((l.length : Int) != 12) = false := bne_eq_false_iff_eq.mpr (by omega)
  clear h12
  have e0 : decide ((l.length : Int) > 100) = false := decide_eq_false (by omega)
  clear hl hr hc ho
  go_enter Try.func12, Try.ntmps12
  go_wp2_with fail
  refine (known_calls _).mono ?_
  rintro e w1 ⟨rfl, hb⟩
  have B1 := Aside0.mk hb
  clear hb
  go_wp2_with fail
  refine (dec_calls A c l _ (HR.out.below B1.out) HC.out HO.out).mono ?_
  rw [HD.out]
  rintro e w2 ⟨he, hb⟩
  obtain rfl : e = .returned (.tuple #[.agg #[.int .u8 0, .int .u8 0, .int .u16 0, .int .u8 0, .int .u8 0, .int .u32 0], .int .u16 30]) := he
  have B2 := Aside0.mk (below_alloc (below_then B1.out B1.out.size hb) (.cells #[.int .u8 0, .int .u8 0, .int .u16 0, .int .u8 0, .int .u8 0, .int .u32 0] 25))
  have X2 := Aside0.mk (show Box (w2.alloc (.cells #[.int .u8 0, .int .u8 0, .int .u16 0, .int .u8 0, .int .u8 0, .int .u32 0] 25)) w2.heap.size 0 0 0 0 0 0 from blk_new _ _)
  clear hb
  obtain ⟨d0, d1, d2, d3, d4, d5⟩ := X2.out.cells
  go_wp2
  go_ret
  exact ⟨rfl, B2.out⟩
set_option maxHeartbeats 4000000 in
set_option maxRecDepth 100000 in
theorem short_six_ok (A : Option Addr) (c : Nat) (l : List Int) (w : World) (hr : ReadsInt w .u8 A l.length l) (hc : l.length ≤ c) (ho : Oct l) (hl : l.length ≤ 100) (F : Fr) (h6 : l.length = 6) (hk : ¬ F.k = 1) (hd : dec l = some F) : Calls Try.prog 12 #[.slice A l.length c] w fun e w' => e = .returned (.bool true) ∧ Below w.heap.size w w' := by
  have HR := Aside0.mk hr
  have HC := Aside0.mk hc
  have HO := Aside0.mk ho
  have HD := Aside0.mk hd
  clear hd
  have f1 : ((l.length : Int) != 6) = false := bne_eq_false_iff_eq.mpr (by omega)
  have f3 : ((l.length : Int) == 12) = false := beq_eq_false_iff_ne.mpr (by omega)
  have f4 : (F.k == 1) = false := beq_eq_false_iff_ne.mpr hk
  clear h6 hk
  have e0 : decide ((l.length : Int) > 100) = false := decide_eq_false (by omega)
  clear hl hr hc ho
  go_enter Try.func12, Try.ntmps12
  go_wp2_with fail
  refine (known_calls _).mono ?_
  rintro e w1 ⟨rfl, hb⟩
  have B1 := Aside0.mk hb
  clear hb
  go_wp2_with fail
  refine (dec_calls A c l _ (HR.out.below B1.out) HC.out HO.out).mono ?_
  rw [HD.out]
  rintro e w2 ⟨he, hb⟩
  obtain rfl : e = .returned (.tuple #[.agg #[.int .u8 F.k, .int .u8 F.l, .int .u16 F.s, .int .u8 F.a, .int .u8 F.b, .int .u32 F.y], .int .u16 0]) := he
  have B2 := Aside0.mk (below_alloc (below_then B1.out B1.out.size hb) (.cells #[.int .u8 F.k, .int .u8 F.l, .int .u16 F.s, .int .u8 F.a, .int .u8 F.b, .int .u32 F.y] 25))
  have X2 := Aside0.mk (show Box (w2.alloc (.cells #[.int .u8 F.k, .int .u8 F.l, .int .u16 F.s, .int .u8 F.a, .int .u8 F.b, .int .u32 F.y] 25)) w2.heap.size F.k F.l F.s F.a F.b F.y from blk_new _ _)
  clear hb
  obtain ⟨d0, d1, d2, d3, d4, d5⟩ := X2.out.cells
  go_wp2
  go_ret
  exact ⟨rfl, B2.out⟩
set_option maxHeartbeats 4000000 in
set_option maxRecDepth 100000 in
theorem short_twelve_ok (A : Option Addr) (c : Nat) (l : List Int) (w : World) (hr : ReadsInt w .u8 A l.length l) (hc : l.length ≤ c) (ho : Oct l) (hl : l.length ≤ 100) (F : Fr) (h12 : l.length = 12) (hk : F.k = 1) (hd : dec l = some F) : Calls Try.prog 12 #[.slice A l.length c] w fun e w' => e = .returned (.bool true) ∧ Below w.heap.size w w' := by
  have HR := Aside0.mk hr
  have HC := Aside0.mk hc
  have HO := Aside0.mk ho
  have HD := Aside0.mk hd
  clear hd
  have f1 : ((l.length : Int) != 6) = true := bne_iff_ne.mpr (by omega)
  have f2 : ((l.length : Int) != 12) = false := bne_eq_false_iff_eq.mpr (by omega)
  have f3 : ((l.length : Int) == 12) = true := beq_iff_eq.mpr (by omega)
  have f4 : (F.k == 1) = true := beq_iff_eq.mpr hk
  clear h12 hk
  have e0 : decide ((l.length : Int) > 100) = false := decide_eq_false (by omega)
  clear hl hr hc ho
  go_enter Try.func12, Try.ntmps12
  go_wp2_with fail
  refine (known_calls _).mono ?_
  rintro e w1 ⟨rfl, hb⟩
  have B1 := Aside0.mk hb
  clear hb
  go_wp2_with fail
  refine (dec_calls A c l _ (HR.out.below B1.out) HC.out HO.out).mono ?_
  rw [HD.out]
  rintro e w2 ⟨he, hb⟩
  obtain rfl : e = .returned (.tuple #[.agg #[.int .u8 F.k, .int .u8 F.l, .int .u16 F.s, .int .u8 F.a, .int .u8 F.b, .int .u32 F.y], .int .u16 0]) := he
  have B2 := Aside0.mk (below_alloc (below_then B1.out B1.out.size hb) (.cells #[.int .u8 F.k, .int .u8 F.l, .int .u16 F.s, .int .u8 F.a, .int .u8 F.b, .int .u32 F.y] 25))
  have X2 := Aside0.mk (show Box (w2.alloc (.cells #[.int .u8 F.k, .int .u8 F.l, .int .u16 F.s, .int .u8 F.a, .int .u8 F.b, .int .u32 F.y] 25)) w2.heap.size F.k F.l F.s F.a F.b F.y from blk_new _ _)
  clear hb
  obtain ⟨d0, d1, d2, d3, d4, d5⟩ := X2.out.cells
  go_wp2
  go_ret
  exact ⟨rfl, B2.out⟩
theorem wireShort_term (A : Option Addr) (c : Nat) (l : List Int) (w : World) (hr : ReadsInt w .u8 A l.length l) (hm : l.length ≤ maxLen) (hw : ∀ x ∈ l, (Lit.int .u8 x).wf = true) (hy : l.length * 1 ≤ 140737488351232) (hn : A = none → c = 0) (hc : l.length ≤ c) :
    Calls Try.prog 12 #[.slice A l.length c] w fun e w' => e = .returned (.bool true) ∧ Below w.heap.size w w' := by
  by_cases hl : 100 < l.length
  · exact short_big A c l w hr hc hw hl
  · rcases hd : dec l with _ | F
    · by_cases h6 : l.length = 6
      · exact short_six A c l w hr hc hw (by omega) h6 hd
      · by_cases h12 : l.length = 12
        · exact short_twelve A c l w hr hc hw (by omega) h12 hd
        · exact short_other A c l w hr hc hw (by omega) h6 h12 hd
    · rcases dec_some hd with ⟨h6, hk⟩ | ⟨h12, hk⟩
      · exact short_six_ok A c l w hr hc hw (by omega) F h6 hk hd
      · exact short_twelve_ok A c l w hr hc hw (by omega) F h12 hk hd
end Go.Proofs.Ytamaemlhnkabcaa.Own
