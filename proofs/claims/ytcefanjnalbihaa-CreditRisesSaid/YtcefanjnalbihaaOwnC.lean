/- The walks of CreditNew and CreditNumbers: each returns true for every input. -/
import Derived.Test.YtcefanjnalbihaaOwnB
namespace Go.Proofs.Ytcefanjnalbihaa.Own
open Go.RowKit Go.Proofs.YtcefanjnalbihaaW.PrintWords Go.Proofs.YtcefanjnalbihaaW.PrintLast Go.Proofs.YtcefanjnalbihaaW.PrintMore
set_option linter.unusedVariables false
set_option linter.unusedSimpArgs false

theorem lo8 {a : Int} (h : (Lit.int .u8 a).wf = true) : 0 ≤ a ∧ a ≤ 255 := by
  simp [Lit.wf, IntKind.min, IntKind.max, IntKind.bits, IntKind.signed] at h; omega
theorem lo32 {a : Int} (h : (Lit.int .u32 a).wf = true) : 0 ≤ a ∧ a ≤ 4294967295 := by
  simp [Lit.wf, IntKind.min, IntKind.max, IntKind.bits, IntKind.signed] at h; omega
theorem lo64 {a : Int} (h : (Lit.int .u64 a).wf = true) : 0 ≤ a ∧ a ≤ 18446744073709551615 := by
  simp [Lit.wf, IntKind.min, IntKind.max, IntKind.bits, IntKind.signed] at h; omega

theorem ret_beq {a b : Int} (h : a = b) : Ending.returned (.bool (a == b)) = Ending.returned (.bool true) := by subst h; simp

theorem usable_is (u : Int) (g : Nat) (s l : Int) (w0 w : World) (hS : St w0 w g s l) (h0 : 0 ≤ s) (h1 : s ≤ l) (h2 : l ≤ s + 8) (h3 : l < 18446744073709551616) (hu : l - s = u) :
    Calls Try.prog 15 #[.pointer (some ⟨g, 0, none⟩)] w fun e w' => e = .returned (.int .i64 u) ∧ St w0 w' g s l := hu ▸ usable_calls g s l w0 w hS h0 h1 h2 h3

set_option maxHeartbeats 4000000 in
set_option maxRecDepth 100000 in
theorem creditNew_walk (n r : Int) (w : World) (w0 : (Lit.int .u64 n).wf = true) (w1 : (Lit.int .i64 r).wf = true) :
    Calls Try.prog 5 #[.int .u64 n, .int .i64 r] w fun e w' => e = .returned (.bool true) ∧ Below w.heap.size w w' := by
  have hn := lo64 w0
  clear w0 w1
  by_cases hv : n < 4611686018427387904 ∧ 1 ≤ r ∧ r ≤ 8
  · obtain ⟨h1, h2, h3⟩ := hv
    go_enter Try.func5, Try.ntmps5
    go_wp2_with fail
    refine (new_St n r w w (Below.refl _ _) (by omega) (by omega) (by omega) (by omega)).mono ?_
    rintro e w1 ⟨g, rfl, hS⟩
    have S0 := Aside0.mk hS
    clear hS
    go_wp2_with fail
    refine (known_calls _).mono ?_
    rintro e w2 ⟨rfl, hb⟩
    have S1 := Aside0.mk (S0.out.below hb)
    clear hb
    go_wp2_with fail
    refine (sent_calls g n (n + r) w w2 S1.out).mono ?_
    rintro e w3 ⟨rfl, hS⟩
    have S2 := Aside0.mk hS
    clear hS
    go_wp2_with fail
    refine (usable_is r g n (n + r) w w3 S2.out (by omega) (by omega) (by omega) (by omega) (by omega)).mono ?_
    rintro e w4 ⟨rfl, hS⟩
    have S3 := Aside0.mk hS
    clear hS
    go_wp2_with fail
    refine (limit_calls g n (n + r) w w4 S3.out).mono ?_
    rintro e w5 ⟨rfl, hS⟩
    have S4 := Aside0.mk hS
    clear hS
    go_wp2
    go_ret
    exact ⟨rfl, S4.out.2.2⟩
  · by_cases h1 : 4611686018427387904 ≤ n
    · go_enter Try.func5, Try.ntmps5
      go_wp2_with (first | (go_at_call 9; (with_reducible refine (new_none n r _ (by omega) (by omega)).mono ?_); rintro e w' ⟨rfl, rfl⟩) | (go_at_call 10; (with_reducible refine (known_calls _).mono ?_); rintro e w' ⟨rfl, hb⟩))
      go_ret
      exact ⟨rfl, hb⟩
    · by_cases h2 : r < 1
      · have h1' : n < 4611686018427387904 := by omega
        go_enter Try.func5, Try.ntmps5
        go_wp2_with (first | (go_at_call 9; (with_reducible refine (new_none n r _ (by omega) (by omega)).mono ?_); rintro e w' ⟨rfl, rfl⟩) | (go_at_call 10; (with_reducible refine (known_calls _).mono ?_); rintro e w' ⟨rfl, hb⟩))
        go_ret
        exact ⟨rfl, hb⟩
      · have h1' : n < 4611686018427387904 := by omega
        have h3 : 8 < r := by omega
        go_enter Try.func5, Try.ntmps5
        go_wp2_with (first | (go_at_call 9; (with_reducible refine (new_none n r _ (by omega) (by omega)).mono ?_); rintro e w' ⟨rfl, rfl⟩) | (go_at_call 10; (with_reducible refine (known_calls _).mono ?_); rintro e w' ⟨rfl, hb⟩))
        go_ret
        exact ⟨rfl, hb⟩

set_option maxHeartbeats 4000000 in
set_option maxRecDepth 100000 in
theorem creditNumbers_walk (n r t : Int) (w : World) (w0 : (Lit.int .u32 n).wf = true) (w1 : (Lit.int .u8 r).wf = true) (w2 : (Lit.int .u8 t).wf = true) :
    Calls Try.prog 4 #[.int .u32 n, .int .u8 r, .int .u8 t] w fun e w' => e = .returned (.bool true) ∧ Below w.heap.size w w' := by
  obtain ⟨n0, n1⟩ := lo32 w0
  obtain ⟨r0, r1⟩ := lo8 w1
  obtain ⟨t0, t1⟩ := lo8 w2
  clear w0 w1 w2
  go_enter Try.func4, Try.ntmps4
  go_wp2_with fail
  refine (new_St n (1 + r % 8) w w (Below.refl _ _) (by omega) (by omega) (by omega) (by omega)).mono ?_
  rintro e w1 ⟨g, rfl, hS⟩
  have S0 := Aside0.mk hS
  clear hS
  go_wp2_with fail
  go_loopw [9] (fun i wr => ∃ k : Nat, ∃ q : Int, (k : Int) ≤ t % 20 ∧ 0 ≤ q ∧ q ≤ k ∧ q ≤ 1 + r % 8 ∧ (k < 1 + r % 8 → k ≤ q) ∧ (1 + r % 8 ≤ k → 1 + r % 8 ≤ q) ∧ i = .int .i64 k ∧ St w wr g (n + q) (n + (1 + r % 8))) (fun i _ => (t % 20).toNat - (intOf i).toNat)
  case atStart => exact ⟨0, 0, by omega, by omega, by omega, by omega, by omega, by omega, rfl, by simpa using S0.out⟩
  case round =>
    obtain ⟨k, q, hk, hq0, hq1, hq2, hq3, hq4, rfl, hS⟩ := hrel
    have S1 := Aside0.mk hS
    clear hS S0
    by_cases hlt : (k : Int) < t % 20
    · by_cases hn : (k : Int) < 1 + r % 8
      · obtain rfl : q = k := by omega
        have e1 : decide ((k : Int) < 1 + r % 8) = true := decide_eq_true hn
        go_wp2_with (go_at_call 13; (with_reducible refine (next_yes g _ _ w _ S1.out (by omega) (by omega) (by omega) (by omega)).mono ?_); rintro e w2 ⟨rfl, hS⟩; have S2 := Aside0.mk hS; clear hS)
        go_roundw
        case rel => exact ⟨k + 1, k + 1, by omega, by omega, by omega, by omega, by omega, by omega, by go_num, by have := S2.out; rwa [Int.add_assoc] at this⟩
        case measure => simp [intOf]; omega
      · obtain rfl : q = 1 + r % 8 := by omega
        have e1 : decide ((k : Int) < 1 + r % 8) = false := decide_eq_false hn
        go_wp2_with (go_at_call 13; (with_reducible refine (next_no g _ w _ S1.out (by omega) (by omega)).mono ?_); rintro e w2 ⟨rfl, hS⟩; have S2 := Aside0.mk hS; clear hS)
        go_roundw
        case rel => exact ⟨k + 1, 1 + r % 8, by omega, by omega, by omega, by omega, by omega, by omega, by go_num, S2.out⟩
        case measure => simp [intOf]; omega
    · have e0 : decide ((k : Int) < t % 20) = false := decide_eq_false hlt
      go_wp2_with (first | (go_at_call 10; (with_reducible refine (known_calls _).mono ?_); rintro e w2 ⟨rfl, hb⟩; have S2 := Aside0.mk (S1.out.below hb); clear hb) | (go_at_call 14; (with_reducible refine (sent_calls g _ _ w _ S2.out).mono ?_); rintro e w3 ⟨rfl, hS⟩; have S3 := Aside0.mk hS; clear hS))
      all_goals
        go_ret
        exact ⟨ret_beq (by omega), S3.out.2.2⟩
end Go.Proofs.Ytcefanjnalbihaa.Own
