/- The walk of CreditStale: it returns true for every input. -/
import Derived.Test.YtcefanjnalbihaaOwnC
namespace Go.Proofs.Ytcefanjnalbihaa.Own
open Go.RowKit Go.Proofs.YtcefanjnalbihaaW.PrintWords Go.Proofs.YtcefanjnalbihaaW.PrintLast Go.Proofs.YtcefanjnalbihaaW.PrintMore
set_option linter.unusedVariables false
set_option linter.unusedSimpArgs false

theorem widen_near (l x b : Int) (h0 : 0 ≤ x) (h1 : x ≤ 18446744073709551615) (h2 : l - 32768 ≤ x) (h3 : x < l + 32768) (hb : b = x % 65536) : widen l b = x := by
  unfold widen; omega

theorem hear_no (g : Nat) (s l b : Int) (w0 w : World) (hS : St w0 w g s l) (h0 : 0 ≤ s) (h3 : s + 8 < 18446744073709551616) (h : widen l b ≤ l ∨ s + 8 < widen l b) :
    Calls Try.prog 11 #[.pointer (some ⟨g, 0, none⟩), .int .u16 b] w fun e w' => e = .returned (.bool false) ∧ St w0 w' g s l := by
  have hc := hear_calls g s l b w0 w hS h0 h3
  rwa [decide_eq_false (by omega), show heard s l b = l from if_pos h] at hc

theorem hear_yes (x : Int) (g : Nat) (s l b : Int) (w0 w : World) (hS : St w0 w g s l) (h0 : 0 ≤ s) (h3 : s + 8 < 18446744073709551616) (hx : widen l b = x) (h1 : l < x) (h2 : x ≤ s + 8) :
    Calls Try.prog 11 #[.pointer (some ⟨g, 0, none⟩), .int .u16 b] w fun e w' => e = .returned (.bool true) ∧ St w0 w' g s x := by
  subst hx
  have hc := hear_calls g s l b w0 w hS h0 h3
  rwa [decide_eq_true (by omega), show heard s l b = widen l b from if_neg (by omega)] at hc

set_option maxHeartbeats 4000000 in
set_option maxRecDepth 100000 in
theorem creditStale_walk (n r b f : Int) (w : World) (w0 : (Lit.int .u32 n).wf = true) (w1 : (Lit.int .u8 r).wf = true) (w2 : (Lit.int .u8 b).wf = true) (w3 : (Lit.int .u8 f).wf = true) :
    Calls Try.prog 6 #[.int .u32 n, .int .u8 r, .int .u8 b, .int .u8 f] w fun e w' => e = .returned (.bool true) ∧ Below w.heap.size w w' := by
  obtain ⟨n0, n1⟩ := lo32 w0
  obtain ⟨r0, r1⟩ := lo8 w1
  obtain ⟨b0, b1⟩ := lo8 w2
  obtain ⟨f0, f1⟩ := lo8 w3
  clear w0 w1 w2 w3
  go_enter Try.func6, Try.ntmps6
  go_wp2_with fail
  refine (new_St (n + 1000) (1 + r % 8) w w (Below.refl _ _) (by omega) (by omega) (by omega) (by omega)).mono ?_
  rintro e w1 ⟨g, rfl, hS⟩
  have S0 := Aside0.mk hS
  clear hS
  go_wp2_with fail
  refine (limit_calls g _ _ w _ S0.out).mono ?_
  rintro e w2 ⟨rfl, hS⟩
  have S1 := Aside0.mk hS
  clear hS
  go_wp2_with fail
  refine (hear_no g _ _ _ w _ S1.out (by omega) (by omega) (Or.inl (by rw [widen_near _ (n + 1000 + (1 + r % 8) - b) _ (by omega) (by omega) (by omega) (by omega) rfl]; omega))).mono ?_
  rintro e w3 ⟨rfl, hS⟩
  have S2 := Aside0.mk hS
  clear hS
  go_wp2_with fail
  refine (sent_calls g _ _ w _ S2.out).mono ?_
  rintro e w4 ⟨rfl, hS⟩
  have S3 := Aside0.mk hS
  clear hS
  go_wp2_with fail
  refine (hear_no g _ _ _ w _ S3.out (by omega) (by omega) (Or.inr (by rw [widen_near _ (n + 1000 + 9 + f) _ (by omega) (by omega) (by omega) (by omega) rfl]; omega))).mono ?_
  rintro e w5 ⟨rfl, hS⟩
  have S4 := Aside0.mk hS
  clear hS
  go_wp2_with fail
  refine (known_calls _).mono ?_
  rintro e w6 ⟨rfl, hb⟩
  have S5 := Aside0.mk (S4.out.below hb)
  clear hb
  go_wp2_with fail
  refine (limit_calls g _ _ w _ S5.out).mono ?_
  rintro e w7 ⟨rfl, hS⟩
  have S6 := Aside0.mk hS
  clear hS
  go_wp2_with fail
  refine (usable_is (1 + r % 8) g _ _ w _ S6.out (by omega) (by omega) (by omega) (by omega) (by omega)).mono ?_
  rintro e w8 ⟨rfl, hS⟩
  have S7 := Aside0.mk hS
  clear hS
  go_wp2
  go_ret
  exact ⟨rfl, S7.out.2.2⟩
end Go.Proofs.Ytcefanjnalbihaa.Own
