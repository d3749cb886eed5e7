/- The walk of CreditRises: it returns true for every input. -/
import Derived.Test.YtcefanjnalbihaaOwnF
import Derived.Test.YtcefanjnalbihaaOwnR
namespace Go.Proofs.Ytcefanjnalbihaa.Own
open Go.RowKit Go.Proofs.YtcefanjnalbihaaW.PrintWords Go.Proofs.YtcefanjnalbihaaW.PrintLast Go.Proofs.YtcefanjnalbihaaW.PrintMore
set_option linter.unusedVariables false
set_option linter.unusedSimpArgs false

theorem lo16 {a : Int} (h : (Lit.int .u16 a).wf = true) : 0 ≤ a ∧ a ≤ 65535 := by
  simp [Lit.wf, IntKind.min, IntKind.max, IntKind.bits, IntKind.signed] at h; omega

theorem hear_any (g : Nat) (s l b : Int) (w0 w : World) (hS : St w0 w g s l) (h0 : 0 ≤ s) (h3 : s + 8 < 18446744073709551616) (hl : l ≤ s + 8) (hsl : s ≤ l) :
    Calls Try.prog 11 #[.pointer (some ⟨g, 0, none⟩), .int .u16 b] w fun e w' => ∃ L b', l ≤ L ∧ L ≤ s + 8 ∧ e = .returned (.bool b') ∧ St w0 w' g s L :=
  (hear_calls g s l b w0 w hS h0 h3).mono fun e w' ⟨he, hS⟩ => by
    refine ⟨heard s l b, _, ?_, ?_, he, hS⟩ <;> unfold heard <;> split <;> omega

set_option maxHeartbeats 4000000 in
set_option maxRecDepth 100000 in
theorem creditRises_some (n r : Int) (ad : Addr) (len cap : Nat) (Z : Nat → Nat → Int) (w : World) (w0 : (Lit.int .u32 n).wf = true) (w1 : (Lit.int .u8 r).wf = true) (hl : len ≤ 200) (hr : ReadsOps w (some ad) len Z) :
    Calls Try.prog 8 #[.int .u32 n, .int .u8 r, .slice (some ad) len cap] w fun e w' => e = .returned (.bool true) ∧ Below w.heap.size w w' := by
  obtain ⟨n0, n1⟩ := lo32 w0
  obtain ⟨r0, r1⟩ := lo8 w1
  have HR := Aside0.mk hr
  clear w0 w1 hr
  go_enter Try.func8, Try.ntmps8
  go_wp2_with fail
  refine (known_calls _).mono ?_
  rintro e w1 ⟨rfl, hb⟩
  have B1 := Aside0.mk hb
  clear hb
  go_wp2_with fail
  refine (new_St n (1 + r % 8) w _ B1.out (by omega) (by omega) (by omega) (by omega)).mono ?_
  rintro e w1 ⟨g, rfl, hS⟩
  have S0 := Aside0.mk hS
  clear hS
  go_wp2_with fail
  refine (limit_calls g _ _ w _ S0.out).mono ?_
  rintro e w2 ⟨rfl, hS⟩
  have S1 := Aside0.mk hS
  clear hS S0
  go_wp2_with fail
  go_loopw [8, 9] (fun c i wr => ∃ k : Nat, ∃ q L : Int, k ≤ len ∧ n ≤ q ∧ q ≤ n + k ∧ q ≤ L ∧ L ≤ q + 8 ∧ c = .int .u64 L ∧ i = .int .i64 k ∧ St w wr g q L) (fun _ i _ => len - (intOf i).toNat)
  case atStart => exact ⟨0, n, n + (1 + r % 8), by omega, by omega, by omega, by omega, by omega, rfl, rfl, S1.out⟩
  case round =>
    obtain ⟨k, q, L, hk, hq0, hq1, hq2, hq3, rfl, rfl, hS⟩ := hrel
    have S2 := Aside0.mk hS
    clear hS S1
    by_cases hlt : k < len
    · obtain ⟨z, _, y, v0, _, v2, c0, _, c2⟩ := HR.out.at_ S2.out.2.2 k hlt
      obtain ⟨z0, z1⟩ := lo8 v0
      obtain ⟨y0, y1⟩ := lo16 v2
      clear v0 v2
      by_cases hev : z % 2 = 0
      · have e1 : (z % 2 == 0) = true := by simp [hev]
        clear hev
        by_cases hql : q = L
        · subst hql
          go_wp2_with fail
          refine (next_no g _ w _ S2.out (by omega) (by omega)).mono ?_
          rintro e w3 ⟨rfl, hS⟩
          have S3 := Aside0.mk hS
          clear hS
          go_wp2_with (first | (go_at_call 12; (with_reducible refine (limit_calls g _ _ w _ S3.out).mono ?_); rintro e w4 ⟨rfl, hS⟩; have S4 := Aside0.mk hS; clear hS) | (go_at_call 14; (with_reducible refine (sent_eq g _ _ w _ S4.out).mono ?_); rintro e w5 ⟨rfl, rfl⟩) | (go_at_call 15; (with_reducible refine (usable_is (q - q) g _ _ w _ S4.out (by omega) (by omega) (by omega) (by omega) rfl).mono ?_); rintro e w6 ⟨rfl, hS⟩; have S5 := Aside0.mk hS; clear hS) | (go_at_call 14; (with_reducible refine (sent_eq g _ _ w _ S5.out).mono ?_); rintro e w5 ⟨rfl, rfl⟩))
          go_roundw
          case rel => exact ⟨k + 1, q, q, by omega, by omega, by omega, by omega, by omega, rfl, by go_num, S5.out⟩
          case measure => simp [intOf]; omega
        · have hql' : q < L := by omega
          clear hql
          go_wp2_with fail
          refine (next_yes g _ _ w _ S2.out (by omega) hql' (by omega) (by omega)).mono ?_
          rintro e w3 ⟨rfl, hS⟩
          have S3 := Aside0.mk hS
          clear hS
          go_wp2_with (first | (go_at_call 12; (with_reducible refine (limit_calls g _ _ w _ S3.out).mono ?_); rintro e w4 ⟨rfl, hS⟩; have S4 := Aside0.mk hS; clear hS) | (go_at_call 14; (with_reducible refine (sent_eq g _ _ w _ S4.out).mono ?_); rintro e w5 ⟨rfl, rfl⟩) | (go_at_call 15; (with_reducible refine (usable_is (L - (q + 1)) g _ _ w _ S4.out (by omega) (by omega) (by omega) (by omega) rfl).mono ?_); rintro e w6 ⟨rfl, hS⟩; have S5 := Aside0.mk hS; clear hS) | (go_at_call 14; (with_reducible refine (sent_eq g _ _ w _ S5.out).mono ?_); rintro e w5 ⟨rfl, rfl⟩))
          go_roundw
          case rel => exact ⟨k + 1, (q + 1), L, by omega, by omega, by omega, by omega, by omega, rfl, by go_num, S5.out⟩
          case measure => simp [intOf]; omega
      · have e1 : (z % 2 == 0) = false := by simp [hev]
        clear hev
        · go_wp2_with fail
          refine (hear_any g _ _ _ w _ S2.out (by omega) (by omega) (by omega) (by omega)).mono ?_
          rintro e w3 ⟨M, bb, hM0, hM1, rfl, hS⟩
          have S3 := Aside0.mk hS
          clear hS
          go_wp2_with (first | (go_at_call 12; (with_reducible refine (limit_calls g _ _ w _ S3.out).mono ?_); rintro e w4 ⟨rfl, hS⟩; have S4 := Aside0.mk hS; clear hS) | (go_at_call 14; (with_reducible refine (sent_eq g _ _ w _ S4.out).mono ?_); rintro e w5 ⟨rfl, rfl⟩) | (go_at_call 15; (with_reducible refine (usable_is (M - q) g _ _ w _ S4.out (by omega) (by omega) (by omega) (by omega) rfl).mono ?_); rintro e w6 ⟨rfl, hS⟩; have S5 := Aside0.mk hS; clear hS) | (go_at_call 14; (with_reducible refine (sent_eq g _ _ w _ S5.out).mono ?_); rintro e w5 ⟨rfl, rfl⟩))
          go_roundw
          case rel => exact ⟨k + 1, q, M, by omega, by omega, by omega, by omega, by omega, rfl, by go_num, S5.out⟩
          case measure => simp [intOf]; omega
    · go_wp2
      go_ret
      exact ⟨rfl, S2.out.2.2⟩

set_option maxHeartbeats 4000000 in
set_option maxRecDepth 100000 in
theorem creditRises_none (n r : Int) (cap : Nat) (w : World) (w0 : (Lit.int .u32 n).wf = true) (w1 : (Lit.int .u8 r).wf = true) :
    Calls Try.prog 8 #[.int .u32 n, .int .u8 r, .slice none 0 cap] w fun e w' => e = .returned (.bool true) ∧ Below w.heap.size w w' := by
  obtain ⟨n0, n1⟩ := lo32 w0
  obtain ⟨r0, r1⟩ := lo8 w1
  clear w0 w1
  go_enter Try.func8, Try.ntmps8
  go_wp2_with fail
  refine (known_calls _).mono ?_
  rintro e w1 ⟨rfl, hb⟩
  have B1 := Aside0.mk hb
  clear hb
  go_wp2_with fail
  refine (new_St n (1 + r % 8) w _ B1.out (by omega) (by omega) (by omega) (by omega)).mono ?_
  rintro e w1 ⟨g, rfl, hS⟩
  have S0 := Aside0.mk hS
  clear hS
  go_wp2_with fail
  refine (limit_calls g _ _ w _ S0.out).mono ?_
  rintro e w2 ⟨rfl, hS⟩
  have S1 := Aside0.mk hS
  clear hS S0
  go_wp2_with fail
  go_loopw [8, 9] (fun c i wr => c = .int .u64 (n + (1 + r % 8)) ∧ i = .int .i64 0 ∧ St w wr g n (n + (1 + r % 8))) (fun _ _ _ => 0)
  case atStart => exact ⟨rfl, rfl, S1.out⟩
  case round =>
    obtain ⟨rfl, rfl, hS⟩ := hrel
    have S2 := Aside0.mk hS
    clear hS S1
    go_wp2
    go_ret
    exact ⟨rfl, S2.out.2.2⟩

set_option maxHeartbeats 4000000 in
theorem creditRises_long (n r : Int) (a : Option Addr) (len cap : Nat) (w : World) (hl : 200 < len) (hm : len ≤ maxLen) :
    Calls Try.prog 8 #[.int .u32 n, .int .u8 r, .slice a len cap] w fun e w' => e = .returned (.bool true) ∧ Below w.heap.size w w' := by
  unfold maxLen at hm
  go_enter Try.func8, Try.ntmps8
  go_wp2_with fail
  refine (known_calls _).mono ?_
  rintro e w2 ⟨rfl, hb⟩
  have S2 := Aside0.mk hb
  clear hb
  go_wp2
  go_ret
  exact ⟨rfl, S2.out⟩

theorem creditRises_walk (n r : Int) (a : Option Addr) (len cap : Nat) (Z : Nat → Nat → Int) (w : World) (w0 : (Lit.int .u32 n).wf = true) (w1 : (Lit.int .u8 r).wf = true) (hr : ReadsOps w a len Z) :
    Calls Try.prog 8 #[.int .u32 n, .int .u8 r, .slice a len cap] w fun e w' => e = .returned (.bool true) ∧ Below w.heap.size w w' := by
  by_cases hl : len ≤ 200
  · cases a with
    | none =>
      have h0 : len = 0 := by
        rcases Nat.eq_zero_or_pos len with h | h
        · exact h
        · obtain ⟨_, h, _⟩ := hr.2 h; cases h
      subst h0
      exact creditRises_none n r cap w w0 w1
    | some ad => exact creditRises_some n r ad len cap Z w w0 w1 hl hr
  · exact creditRises_long n r a len cap w (by omega) hr.1
end Go.Proofs.Ytcefanjnalbihaa.Own
