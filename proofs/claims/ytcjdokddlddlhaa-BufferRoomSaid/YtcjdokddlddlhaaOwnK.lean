/- The walk of BufferRoom: for every input it returns true. -/
import Derived.Test.YtcjdokddlddlhaaOwnJ
namespace Go.Proofs.Ytcjdokddlddlhaa.Own
open Go.RowKit Go.Proofs.Ytcjdokddlddlhaa.PBufferOnce Go.Proofs.YtcjdokddlddlhaaW.PrintWords Go.Proofs.YtcjdokddlddlhaaW.PrintLast Go.Proofs.YtcjdokddlddlhaaW.PrintMore
set_option linter.unusedVariables false
set_option linter.unusedSimpArgs false

set_option maxHeartbeats 4000000 in
set_option maxRecDepth 100000 in
theorem bufferRoom_some (n r f : Int) (ad : Addr) (len cap : Nat) (Z : Nat → Nat → Int) (w : World) (w0 : (Lit.int .u32 n).wf = true) (w1 : (Lit.int .u8 r).wf = true) (w3 : (Lit.int .u8 f).wf = true) (hl : len ≤ 100) (hr : ReadsOps w (some ad) len Z) :
    Calls Try.prog 8 #[.int .u32 n, .int .u8 r, .slice (some ad) len cap, .int .u8 f] w fun e w' => e = .returned (.bool true) ∧ Below w.heap.size w w' := by
  obtain ⟨f0, f1⟩ := lo8 w3
  clear w3
  obtain ⟨n0, n1⟩ := lo32 w0
  obtain ⟨r0, r1⟩ := lo8 w1
  have HR := Aside0.mk hr
  clear w0 w1 hr
  go_enter Try.func8, Try.ntmps8
  go_wp2_with fail
  refine (known_calls _).mono ?_
  rintro e w1 ⟨rfl, hb⟩
  have B1 := Aside0.mk hb
  clear hb
  go_wp2_with fail
  refine (new_St n (1 + r % 8) w _ B1.out (by omega) (by omega) (by omega) (by omega)).mono ?_
  rintro e w2 ⟨g, rfl, hS, _, _⟩
  have SA := Aside0.mk hS
  clear hS
  go_wp2_with fail
  refine (rnew_St n (1 + r % 8) g _ _ _ w _ SA.out (by omega) (by omega) (by omega) (by omega)).mono ?_
  rintro e w0 ⟨g', rfl, hS, hR, hne⟩
  have S0 := Aside0.mk hS
  have R0 := Aside0.mk hR
  clear hS hR SA
  go_wp2_with fail
  refine (limit_calls g _ _ _ w _ S0.out (by omega) (by omega) (by omega) (by omega) (by omega)).mono ?_
  rintro e w1 ⟨rfl, hS, hK⟩
  have R1 := Aside0.mk (R0.out.other hK hS.2 (Ne.symm hne))
  have S1 := Aside0.mk hS
  clear hS hK
  go_wp2_with fail
  go_loopw [12, 13] (fun c i wr => ∃ k : Nat, ∃ X h tl : Int, k ≤ len ∧ n ≤ X ∧ X ≤ n + 8 * k ∧ 0 ≤ h ∧ h ≤ 1 + r % 8 ∧ n + 1 ≤ tl ∧ tl ≤ X + (1 + r % 8 - h) ∧ c = .int .u64 tl ∧ i = .int .i64 k ∧ St w wr g X h (1 + r % 8) ∧ RSt w wr g') (fun _ i _ => len - (intOf i).toNat)
  case atStart => exact ⟨0, n, 0, n + (1 + r % 8), by omega, by omega, by omega, by omega, by omega, by omega, by omega, rfl, rfl, S1.out, R1.out⟩
  case round =>
    obtain ⟨k, X, h, tl, hk, hX0, hX1, hh0, hh1, ht0, ht1, rfl, rfl, hS, hR⟩ := hrel
    clear S0 R0 S1 R1
    have S0 := Aside0.mk hS
    have R0 := Aside0.mk hR
    clear hS hR
    by_cases hlt : k < len
    · obtain ⟨z0, z1, z2, v0, v1, v2, c0, c1, c2⟩ := HR.out.at_ S0.out.2 k hlt
      obtain ⟨z00, z01⟩ := lo8 v0
      obtain ⟨z10, z11⟩ := lo8 v1
      clear v0 v1 v2
      go_wp2_with fail
      refine (does_calls g g' X h (1 + r % 8) _ _ _ w _ S0.out R0.out hne (by omega) (by omega) (by omega) (by omega) (by omega) z00 z01 z10 z11).mono ?_
      intro e w1 hD
      unfold Does Goes at hD
      obtain ⟨bb, X', h', rfl, ⟨gx0, gx1, gh0, gh1, gl⟩, hS, hR⟩ := hD
      have S1 := Aside0.mk hS
      have R1 := Aside0.mk hR
      clear hS hR
      clear c0 c1 c2
      go_wp2_with (go_at_call 10; (with_reducible refine (limit_calls g _ _ _ w _ S1.out (by omega) (by omega) (by omega) (by omega) (by omega)).mono ?_); rintro e w2 ⟨rfl, hS, hK⟩; have R2 := Aside0.mk (R1.out.other hK hS.2 (Ne.symm hne)); have S2 := Aside0.mk hS; clear hS hK)
      all_goals
        go_roundw
        case rel => first | exact ⟨k + 1, X', h', X' + (1 + r % 8 - h'), by omega, by omega, by omega, by omega, by omega, by omega, by omega, rfl, by go_num, S2.out, R2.out⟩ | exact ⟨k + 1, X', h', tl, by omega, by omega, by omega, by omega, by omega, by omega, by omega, rfl, by go_num, S1.out, R1.out⟩
        case measure => simp [intOf]; omega
    · by_cases hte : tl ≤ X
      · have d1 : decide (tl ≤ X) = true := decide_eq_true hte
        have d2 : decide (tl ≤ X + (1 + r % 8 - h)) = true := decide_eq_true ht1
        go_wp2_with fail
        refine (expects_calls g _ _ _ w _ S0.out).mono ?_
        rintro e w1 ⟨rfl, hS, hK⟩
        have R1 := Aside0.mk (R0.out.other hK hS.2 (Ne.symm hne))
        have S1 := Aside0.mk hS
        clear hS hK
        go_wp2_with fail
        refine (limit_calls g _ _ _ w _ S1.out (by omega) (by omega) (by omega) (by omega) (by omega)).mono ?_
        rintro e w2 ⟨rfl, hS, hK⟩
        have R2 := Aside0.mk (R1.out.other hK hS.2 (Ne.symm hne))
        have S2 := Aside0.mk hS
        clear hS hK
        go_wp2
        go_ret
        exact ⟨by first | rfl | (simp; omega), S2.out.2⟩
      · have d1 : decide (tl ≤ X) = false := decide_eq_false hte
        have d2 : decide (h + 1 ≤ 1 + r % 8) = true := by simp; omega
        go_wp2_with fail
        refine (expects_calls g _ _ _ w _ S0.out).mono ?_
        rintro e w1 ⟨rfl, hS, hK⟩
        have R1 := Aside0.mk (R0.out.other hK hS.2 (Ne.symm hne))
        have S1 := Aside0.mk hS
        clear hS hK
        go_wp2_with fail
        refine (come_ok (tl - 1) g _ _ _ _ w _ S1.out (by omega) (by omega) (by omega) (by omega) (by omega) (widen_near _ _ _ (by omega) (by omega) (by omega) (by omega) rfl) (by omega) (by omega)).mono ?_
        rintro e w2 ⟨rfl, hS, hK⟩
        have R2 := Aside0.mk (R1.out.other hK hS.2 (Ne.symm hne))
        have S2 := Aside0.mk hS
        clear hS hK
        go_wp2_with fail
        refine (held_calls g _ _ _ w _ S2.out).mono ?_
        rintro e w3 ⟨rfl, hS, hK⟩
        have R3 := Aside0.mk (R2.out.other hK hS.2 (Ne.symm hne))
        have S3 := Aside0.mk hS
        clear hS hK
        go_wp2
        go_ret
        exact ⟨by first | rfl | (simp; omega), S3.out.2⟩

set_option maxHeartbeats 4000000 in
set_option maxRecDepth 100000 in
theorem bufferRoom_none (n r f : Int) (cap : Nat) (w : World) (w0 : (Lit.int .u32 n).wf = true) (w1 : (Lit.int .u8 r).wf = true) (w3 : (Lit.int .u8 f).wf = true) (hr : True) :
    Calls Try.prog 8 #[.int .u32 n, .int .u8 r, .slice none 0 cap, .int .u8 f] w fun e w' => e = .returned (.bool true) ∧ Below w.heap.size w w' := by
  obtain ⟨f0, f1⟩ := lo8 w3
  clear w3
  obtain ⟨n0, n1⟩ := lo32 w0
  obtain ⟨r0, r1⟩ := lo8 w1
  have HR := Aside0.mk hr
  clear w0 w1 hr
  go_enter Try.func8, Try.ntmps8
  go_wp2_with fail
  refine (known_calls _).mono ?_
  rintro e w1 ⟨rfl, hb⟩
  have B1 := Aside0.mk hb
  clear hb
  go_wp2_with fail
  refine (new_St n (1 + r % 8) w _ B1.out (by omega) (by omega) (by omega) (by omega)).mono ?_
  rintro e w2 ⟨g, rfl, hS, _, _⟩
  have SA := Aside0.mk hS
  clear hS
  go_wp2_with fail
  refine (rnew_St n (1 + r % 8) g _ _ _ w _ SA.out (by omega) (by omega) (by omega) (by omega)).mono ?_
  rintro e w0 ⟨g', rfl, hS, hR, hne⟩
  have S0 := Aside0.mk hS
  have R0 := Aside0.mk hR
  clear hS hR SA
  go_wp2_with fail
  refine (limit_calls g _ _ _ w _ S0.out (by omega) (by omega) (by omega) (by omega) (by omega)).mono ?_
  rintro e w1 ⟨rfl, hS, hK⟩
  have R1 := Aside0.mk (R0.out.other hK hS.2 (Ne.symm hne))
  have S1 := Aside0.mk hS
  clear hS hK
  go_wp2_with fail
  go_loopw [12, 13] (fun c i wr => ∃ tl : Int, n + 1 ≤ tl ∧ tl ≤ n + (1 + r % 8 - 0) ∧ c = .int .u64 tl ∧ i = .int .i64 0 ∧ St w wr g n 0 (1 + r % 8) ∧ RSt w wr g') (fun _ _ _ => 0)
  case atStart => exact ⟨_, by omega, by omega, rfl, rfl, S1.out, R1.out⟩
  case round =>
    obtain ⟨tl, ht0, ht1, rfl, rfl, hS, hR⟩ := hrel
    clear S0 R0 S1 R1
    have S0 := Aside0.mk hS
    have R0 := Aside0.mk hR
    clear hS hR
    have d1 : decide (tl ≤ n) = false := by simp; omega
    go_wp2_with fail
    refine (expects_calls g _ _ _ w _ S0.out).mono ?_
    rintro e w1 ⟨rfl, hS, hK⟩
    have R1 := Aside0.mk (R0.out.other hK hS.2 (Ne.symm hne))
    have S1 := Aside0.mk hS
    clear hS hK
    go_wp2_with fail
    refine (come_ok (tl - 1) g _ _ _ _ w _ S1.out (by omega) (by omega) (by omega) (by omega) (by omega) (widen_near _ _ _ (by omega) (by omega) (by omega) (by omega) rfl) (by omega) (by omega)).mono ?_
    rintro e w2 ⟨rfl, hS, hK⟩
    have R2 := Aside0.mk (R1.out.other hK hS.2 (Ne.symm hne))
    have S2 := Aside0.mk hS
    clear hS hK
    go_wp2_with fail
    refine (held_calls g _ _ _ w _ S2.out).mono ?_
    rintro e w3 ⟨rfl, hS, hK⟩
    have R3 := Aside0.mk (R2.out.other hK hS.2 (Ne.symm hne))
    have S3 := Aside0.mk hS
    clear hS hK
    go_wp2
    go_ret
    exact ⟨by first | rfl | (simp; omega), S3.out.2⟩

set_option maxHeartbeats 4000000 in
set_option maxRecDepth 100000 in
theorem bufferRoom_long (n r f : Int) (a : Option Addr) (len cap : Nat) (w : World) (hl : 100 < len) (hm : len ≤ maxLen) :
    Calls Try.prog 8 #[.int .u32 n, .int .u8 r, .slice a len cap, .int .u8 f] w fun e w' => e = .returned (.bool true) ∧ Below w.heap.size w w' := by
  unfold maxLen at hm
  go_enter Try.func8, Try.ntmps8
  go_wp2_with fail
  refine (known_calls _).mono ?_
  rintro e w2 ⟨rfl, hb⟩
  have S2 := Aside0.mk hb
  clear hb
  go_wp2
  go_ret
  exact ⟨rfl, S2.out⟩

theorem bufferRoom_walk (n r : Int) (a : Option Addr) (len cap : Nat) (Z : Nat → Nat → Int) (f : Int) (w : World) (w0 : (Lit.int .u32 n).wf = true) (w1 : (Lit.int .u8 r).wf = true) (hr : ReadsOps w a len Z) (w3 : (Lit.int .u8 f).wf = true) :
    Calls Try.prog 8 #[.int .u32 n, .int .u8 r, .slice a len cap, .int .u8 f] w fun e w' => e = .returned (.bool true) ∧ Below w.heap.size w w' := by
  by_cases hl : len ≤ 100
  · cases a with
    | none =>
      have h0 : len = 0 := by
        rcases Nat.eq_zero_or_pos len with h | h
        · exact h
        · obtain ⟨_, h, _⟩ := hr.2 h; cases h
      subst h0
      exact bufferRoom_none n r f cap w w0 w1 w3 trivial
    | some ad => exact bufferRoom_some n r f ad len cap Z w w0 w1 w3 hl hr
  · exact bufferRoom_long n r f a len cap w (by omega) hr.1
end Go.Proofs.Ytcjdokddlddlhaa.Own
