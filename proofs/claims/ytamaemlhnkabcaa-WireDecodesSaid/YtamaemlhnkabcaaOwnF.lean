/- Decode in plain numbers; known (layer 3). -/
import Derived.Test.YtamaemlhnkabcaaOwnE
namespace Go.Proofs.Ytamaemlhnkabcaa.Own
open Go.RowKit Go.Proofs.Ytamaemlhnkabcaa.Crc Go.Proofs.Ytamaemlhnkabcaa.PWireRefuses Go.Proofs.YtamaemlhnkabcaaW.PrintWords Go.Proofs.YtamaemlhnkabcaaW.PrintLast Go.Proofs.YtamaemlhnkabcaaW.PrintMore
set_option linter.unusedVariables false
set_option linter.unusedSimpArgs false


/-- The frame that six, or twelve, bytes are. -/
def dec6 (x0 x1 x2 x3 x4 x5 : Int) : Option Fr := if crcI [x0, x1, x2, x3] = x4 * 256 + x5 ∧ ¬ x0 = 1 ∧ Own.sound x0 x1 0 0 0 = true then some ⟨x0, x1, x2 * 256 + x3, 0, 0, 0⟩ else none
def dec12 (x0 x1 x2 x3 x4 x5 x6 x7 x8 x9 x10 x11 : Int) : Option Fr := if crcI [x0, x1, x2, x3, x4, x5, x6, x7, x8, x9] = x10 * 256 + x11 ∧ x0 = 1 ∧ Own.sound x0 x1 x4 x5 (x6 * 16777216 + x7 * 65536 + x8 * 256 + x9) = true then some ⟨x0, x1, x2 * 256 + x3, x4, x5, x6 * 16777216 + x7 * 65536 + x8 * 256 + x9⟩ else none
def dec : List Int → Option Fr
  | [x0, x1, x2, x3, x4, x5] => dec6 x0 x1 x2 x3 x4 x5
  | [x0, x1, x2, x3, x4, x5, x6, x7, x8, x9, x10, x11] => dec12 x0 x1 x2 x3 x4 x5 x6 x7 x8 x9 x10 x11
  | _ => none
theorem dec_none {l : List Int} (h6 : ¬ l.length = 6) (h12 : ¬ l.length = 12) : dec l = none := by
  unfold dec
  split
  · exact absurd rfl h6
  · exact absurd rfl h12
  · rfl
/-- What Decode answers. -/
def Fr.or (o : Option Fr) : Fr := o.getD Fr.zero
def code (o : Option Fr) : Int := if o.isSome = true then 0 else 30
theorem Row.slice {w0 w : World} {base : Nat} {v : Value} {l : List Int} (h : Row w0 w base v l) : ∃ A c, v = .slice A l.length c ∧ ReadsInt w .u8 A l.length l ∧ l.length ≤ c ∧ (A = none → c = 0) := by
  obtain ⟨A, c, rfl, hr, hn⟩ := h.reads
  refine ⟨A, c, rfl, hr, ?_, hn⟩
  obtain ⟨⟨hl, hv⟩, _⟩ := h
  rcases hv with ⟨he, hn⟩ | ⟨g, cap, cur, he, hg, hh, hc, hm, hs, ht⟩
  · omega
  · simp only [Value.slice.injEq] at he
    obtain ⟨-, -, rfl⟩ := he
    exact hc
theorem dec_calls (A : Option Addr) (c : Nat) (l : List Int) (w : World) (hr : ReadsInt w .u8 A l.length l) (hc : l.length ≤ c) (ho : Oct l) :
    Calls Try.prog 19 #[.slice A l.length c] w (Back w (Fr.or (dec l)) (code (dec l))) := by
  by_cases h6 : l.length = 6
  · match l, h6 with
    | [x0, x1, x2, x3, x4, x5], _ =>
      obtain ⟨ad, rfl, _⟩ := hr.2.2 (by simp)
      have g : ∀ k, 0 ≤ [x0, x1, x2, x3, x4, x5].getD k 0 ∧ [x0, x1, x2, x3, x4, x5].getD k 0 ≤ 255 := ho.getD
      by_cases hs : crcI [x0, x1, x2, x3] = x4 * 256 + x5
      · by_cases hx : x0 = 1
        · have e : dec [x0, x1, x2, x3, x4, x5] = none := if_neg (fun h => h.2.1 hx)
          rw [e]
          exact dec6_kind ad c x0 x1 x2 x3 x4 x5 w hr hc (g 0) (g 1) (g 2) (g 3) (g 4) (g 5) hs hx
        · rcases hf : Own.sound x0 x1 0 0 0 with _ | _
          · have e : dec [x0, x1, x2, x3, x4, x5] = none := if_neg (fun h => by rw [hf] at h; exact absurd h.2.2 (by decide))
            rw [e]
            exact dec6_bad ad c x0 x1 x2 x3 x4 x5 w hr hc (g 0) (g 1) (g 2) (g 3) (g 4) (g 5) hs hx hf
          · have e : dec [x0, x1, x2, x3, x4, x5] = some ⟨x0, x1, x2 * 256 + x3, 0, 0, 0⟩ := if_pos ⟨hs, hx, hf⟩
            rw [e]
            exact dec6_ok ad c x0 x1 x2 x3 x4 x5 w hr hc (g 0) (g 1) (g 2) (g 3) (g 4) (g 5) hs hx hf
      · have e : dec [x0, x1, x2, x3, x4, x5] = none := if_neg (fun h => hs h.1)
        rw [e]
        exact dec6_sum ad c x0 x1 x2 x3 x4 x5 w hr hc (g 0) (g 1) (g 2) (g 3) (g 4) (g 5) hs
  · by_cases h12 : l.length = 12
    · match l, h12 with
      | [x0, x1, x2, x3, x4, x5, x6, x7, x8, x9, x10, x11], _ =>
        obtain ⟨ad, rfl, _⟩ := hr.2.2 (by simp)
        have g : ∀ k, 0 ≤ [x0, x1, x2, x3, x4, x5, x6, x7, x8, x9, x10, x11].getD k 0 ∧ [x0, x1, x2, x3, x4, x5, x6, x7, x8, x9, x10, x11].getD k 0 ≤ 255 := ho.getD
        by_cases hs : crcI [x0, x1, x2, x3, x4, x5, x6, x7, x8, x9] = x10 * 256 + x11
        · by_cases hx : x0 = 1
          · rcases hf : Own.sound x0 x1 x4 x5 (x6 * 16777216 + x7 * 65536 + x8 * 256 + x9) with _ | _
            · have e : dec [x0, x1, x2, x3, x4, x5, x6, x7, x8, x9, x10, x11] = none := if_neg (fun h => by rw [hf] at h; exact absurd h.2.2 (by decide))
              rw [e]
              exact dec12_bad ad c x0 x1 x2 x3 x4 x5 x6 x7 x8 x9 x10 x11 w hr hc (g 0) (g 1) (g 2) (g 3) (g 4) (g 5) (g 6) (g 7) (g 8) (g 9) (g 10) (g 11) hs hx hf
            · have e : dec [x0, x1, x2, x3, x4, x5, x6, x7, x8, x9, x10, x11] = some ⟨x0, x1, x2 * 256 + x3, x4, x5, x6 * 16777216 + x7 * 65536 + x8 * 256 + x9⟩ := if_pos ⟨hs, hx, hf⟩
              rw [e]
              exact dec12_ok ad c x0 x1 x2 x3 x4 x5 x6 x7 x8 x9 x10 x11 w hr hc (g 0) (g 1) (g 2) (g 3) (g 4) (g 5) (g 6) (g 7) (g 8) (g 9) (g 10) (g 11) hs hx hf
          · have e : dec [x0, x1, x2, x3, x4, x5, x6, x7, x8, x9, x10, x11] = none := if_neg (fun h => hx h.2.1)
            rw [e]
            exact dec12_kind ad c x0 x1 x2 x3 x4 x5 x6 x7 x8 x9 x10 x11 w hr hc (g 0) (g 1) (g 2) (g 3) (g 4) (g 5) (g 6) (g 7) (g 8) (g 9) (g 10) (g 11) hs hx
        · have e : dec [x0, x1, x2, x3, x4, x5, x6, x7, x8, x9, x10, x11] = none := if_neg (fun h => hs h.1)
          rw [e]
          exact dec12_sum ad c x0 x1 x2 x3 x4 x5 x6 x7 x8 x9 x10 x11 w hr hc (g 0) (g 1) (g 2) (g 3) (g 4) (g 5) (g 6) (g 7) (g 8) (g 9) (g 10) (g 11) hs
    · rw [dec_none h6 h12]
      exact dec_other A l.length c w h6 h12 hr.2.1
end Go.Proofs.Ytamaemlhnkabcaa.Own
