/- New of the reference's receiver, and the walk of BufferBounds: for every input it returns true. -/
import Derived.Test.YtcjdokddlddlhaaOwnI
import Derived.Test.YtcjdokddlddlhaaOwnR
namespace Go.Proofs.Ytcjdokddlddlhaa.Own
open Go.RowKit Go.Proofs.Ytcjdokddlddlhaa.PBufferOnce Go.Proofs.YtcjdokddlddlhaaW.PrintWords Go.Proofs.YtcjdokddlddlhaaW.PrintLast Go.Proofs.YtcjdokddlddlhaaW.PrintMore
set_option linter.unusedVariables false
set_option linter.unusedSimpArgs false

set_option maxHeartbeats 4000000 in
set_option maxRecDepth 100000 in
theorem rnew_calls (n r : Int) (w : World) (h0 : 0 ≤ n) (h1 : n < 4611686018427387904) (h2 : 1 ≤ r) (h3 : r ≤ 8) :
    Calls Try.prog 17 #[.int .u64 n, .int .i64 r] w fun e w' => e = .returned (.pointer (some ⟨w.heap.size, 0, none⟩)) ∧ w' = w.alloc (.cells #[.int .u64 n, .int .i64 0, .int .i64 r] 50) := by
  have e1 : decide (4611686018427387904 ≤ n) = false := by simp; omega
  have e2 : decide (r < 1) = false := by simp; omega
  have e3 : decide (8 < r) = false := by simp; omega
  go_enter Try.func17, Try.ntmps17
  go_wp2
  go_ret
  exact ⟨rfl, rfl⟩

theorem rnew_St (n r : Int) (g : Nat) (x h q : Int) (w0 w : World) (s : St w0 w g x h q) (h0 : 0 ≤ n) (h1 : n < 4611686018427387904) (h2 : 1 ≤ r) (h3 : r ≤ 8) :
    Calls Try.prog 17 #[.int .u64 n, .int .i64 r] w fun e w' => ∃ g', e = .returned (.pointer (some ⟨g', 0, none⟩)) ∧ St w0 w' g x h q ∧ RSt w0 w' g' ∧ g ≠ g' :=
  (rnew_calls n r w h0 h1 h2 h3).mono fun e w' ⟨he, hw⟩ => ⟨_, he, by subst hw; exact s.below (below_alloc (Below.refl _ _) _), by subst hw; exact ⟨⟨_, _, _, blk_new _ _⟩, s.2.size, below_alloc s.2 _⟩, by have := blk_lt s.1.1; omega⟩

set_option maxHeartbeats 4000000 in
set_option maxRecDepth 100000 in
theorem bufferBounds_some (n r : Int) (ad : Addr) (len cap : Nat) (Z : Nat → Nat → Int) (w : World) (w0 : (Lit.int .u32 n).wf = true) (w1 : (Lit.int .u8 r).wf = true) (hl : len ≤ 200) (hr : ReadsOps w (some ad) len Z) :
    Calls Try.prog 6 #[.int .u32 n, .int .u8 r, .slice (some ad) len cap] w fun e w' => e = .returned (.bool true) ∧ Below w.heap.size w w' := by
  obtain ⟨n0, n1⟩ := lo32 w0
  obtain ⟨r0, r1⟩ := lo8 w1
  have HR := Aside0.mk hr
  clear w0 w1 hr
  go_enter Try.func6, Try.ntmps6
  go_wp2_with fail
  refine (known_calls _).mono ?_
  rintro e w1 ⟨rfl, hb⟩
  have B1 := Aside0.mk hb
  clear hb
  go_wp2_with fail
  refine (new_St n (1 + r % 8) w _ B1.out (by omega) (by omega) (by omega) (by omega)).mono ?_
  rintro e w2 ⟨g, rfl, hS, _, _⟩
  have SA := Aside0.mk hS
  clear hS
  go_wp2_with fail
  refine (rnew_St n (1 + r % 8) g _ _ _ w _ SA.out (by omega) (by omega) (by omega) (by omega)).mono ?_
  rintro e w0 ⟨g', rfl, hS, hR, hne⟩
  have S0 := Aside0.mk hS
  have R0 := Aside0.mk hR
  clear hS hR SA
  go_wp2_with fail
  go_loopw [10] (fun i wr => ∃ k : Nat, ∃ X h : Int, k ≤ len ∧ n ≤ X ∧ X ≤ n + 8 * k ∧ 0 ≤ h ∧ h ≤ 1 + r % 8 ∧ i = .int .i64 k ∧ St w wr g X h (1 + r % 8) ∧ RSt w wr g') (fun i _ => len - (intOf i).toNat)
  case atStart => exact ⟨0, n, 0, by omega, by omega, by omega, by omega, by omega, rfl, S0.out, R0.out⟩
  case round =>
    obtain ⟨k, X, h, hk, hX0, hX1, hh0, hh1, rfl, hS, hR⟩ := hrel
    clear S0 R0
    have S0 := Aside0.mk hS
    have R0 := Aside0.mk hR
    clear hS hR
    by_cases hlt : k < len
    · go_wp2_with fail
      refine (limit_calls g _ _ _ w _ S0.out (by omega) (by omega) (by omega) (by omega) (by omega)).mono ?_
      rintro e w1 ⟨rfl, hS, hK⟩
      have R1 := Aside0.mk (R0.out.other hK hS.2 (Ne.symm hne))
      have S1 := Aside0.mk hS
      clear hS hK
      go_wp2_with fail
      refine (expects_calls g _ _ _ w _ S1.out).mono ?_
      rintro e w2 ⟨rfl, hS, hK⟩
      have R2 := Aside0.mk (R1.out.other hK hS.2 (Ne.symm hne))
      have S2 := Aside0.mk hS
      clear hS hK
      obtain ⟨z0, z1, z2, v0, v1, v2, c0, c1, c2⟩ := HR.out.at_ S2.out.2 k hlt
      obtain ⟨z00, z01⟩ := lo8 v0
      obtain ⟨z10, z11⟩ := lo8 v1
      clear v0 v1 v2
      go_wp2_with fail
      refine (does_calls g g' X h (1 + r % 8) _ _ _ w _ S2.out R2.out hne (by omega) (by omega) (by omega) (by omega) (by omega) z00 z01 z10 z11).mono ?_
      intro e w3 hD
      unfold Does Goes at hD
      obtain ⟨bb, X', h', rfl, ⟨gx0, gx1, gh0, gh1, gl⟩, hS, hR⟩ := hD
      have S3 := Aside0.mk hS
      have R3 := Aside0.mk hR
      clear hS hR
      clear c0 c1 c2
      have d1 : decide (h' < 0) = false := by simp; omega
      have d2 : decide (1 + r % 8 < h') = false := by simp; omega
      have d3 : decide (X' + (1 + r % 8 - h') < X + (1 + r % 8 - h)) = false := by simp; omega
      have d4 : decide (X' < X) = false := by simp; omega
      go_wp2_with fail
      refine (held_calls g _ _ _ w _ S3.out).mono ?_
      rintro e w4 ⟨rfl, hS, hK⟩
      have R4 := Aside0.mk (R3.out.other hK hS.2 (Ne.symm hne))
      have S4 := Aside0.mk hS
      clear hS hK
      go_wp2_with fail
      refine (held_calls g _ _ _ w _ S4.out).mono ?_
      rintro e w5 ⟨rfl, hS, hK⟩
      have R5 := Aside0.mk (R4.out.other hK hS.2 (Ne.symm hne))
      have S5 := Aside0.mk hS
      clear hS hK
      go_wp2_with fail
      refine (limit_calls g _ _ _ w _ S5.out (by omega) (by omega) (by omega) (by omega) (by omega)).mono ?_
      rintro e w6 ⟨rfl, hS, hK⟩
      have R6 := Aside0.mk (R5.out.other hK hS.2 (Ne.symm hne))
      have S6 := Aside0.mk hS
      clear hS hK
      go_wp2_with fail
      refine (expects_calls g _ _ _ w _ S6.out).mono ?_
      rintro e w7 ⟨rfl, hS, hK⟩
      have R7 := Aside0.mk (R6.out.other hK hS.2 (Ne.symm hne))
      have S7 := Aside0.mk hS
      clear hS hK
      go_wp2_with fail
      refine (limit_calls g _ _ _ w _ S7.out (by omega) (by omega) (by omega) (by omega) (by omega)).mono ?_
      rintro e w8 ⟨rfl, hS, hK⟩
      have R8 := Aside0.mk (R7.out.other hK hS.2 (Ne.symm hne))
      have S8 := Aside0.mk hS
      clear hS hK
      go_wp2_with fail
      refine (expects_calls g _ _ _ w _ S8.out).mono ?_
      rintro e w9 ⟨rfl, hS, hK⟩
      have R9 := Aside0.mk (R8.out.other hK hS.2 (Ne.symm hne))
      have S9 := Aside0.mk hS
      clear hS hK
      go_wp2_with fail
      refine (held_calls g _ _ _ w _ S9.out).mono ?_
      rintro e w10 ⟨rfl, hS, hK⟩
      have R10 := Aside0.mk (R9.out.other hK hS.2 (Ne.symm hne))
      have S10 := Aside0.mk hS
      clear hS hK
      go_wp2
      go_roundw
      case rel => exact ⟨k + 1, X', h', by omega, by omega, by omega, by omega, by omega, by go_num, S10.out, R10.out⟩
      case measure => simp [intOf]; omega
    · go_wp2
      go_ret
      exact ⟨rfl, S0.out.2⟩

set_option maxHeartbeats 4000000 in
set_option maxRecDepth 100000 in
theorem bufferBounds_none (n r : Int) (cap : Nat) (w : World) (w0 : (Lit.int .u32 n).wf = true) (w1 : (Lit.int .u8 r).wf = true) (hr : True) :
    Calls Try.prog 6 #[.int .u32 n, .int .u8 r, .slice none 0 cap] w fun e w' => e = .returned (.bool true) ∧ Below w.heap.size w w' := by
  obtain ⟨n0, n1⟩ := lo32 w0
  obtain ⟨r0, r1⟩ := lo8 w1
  have HR := Aside0.mk hr
  clear w0 w1 hr
  go_enter Try.func6, Try.ntmps6
  go_wp2_with fail
  refine (known_calls _).mono ?_
  rintro e w1 ⟨rfl, hb⟩
  have B1 := Aside0.mk hb
  clear hb
  go_wp2_with fail
  refine (new_St n (1 + r % 8) w _ B1.out (by omega) (by omega) (by omega) (by omega)).mono ?_
  rintro e w2 ⟨g, rfl, hS, _, _⟩
  have SA := Aside0.mk hS
  clear hS
  go_wp2_with fail
  refine (rnew_St n (1 + r % 8) g _ _ _ w _ SA.out (by omega) (by omega) (by omega) (by omega)).mono ?_
  rintro e w0 ⟨g', rfl, hS, hR, hne⟩
  have S0 := Aside0.mk hS
  have R0 := Aside0.mk hR
  clear hS hR SA
  go_wp2_with fail
  go_loopw [10] (fun i wr => i = .int .i64 0 ∧ Below w.heap.size w wr) (fun _ _ => 0)
  case atStart => exact ⟨rfl, S0.out.2⟩
  case round =>
    obtain ⟨rfl, hS⟩ := hrel
    have S1 := Aside0.mk hS
    clear hS
    go_wp2
    go_ret
    exact ⟨rfl, S1.out⟩

set_option maxHeartbeats 4000000 in
set_option maxRecDepth 100000 in
theorem bufferBounds_long (n r : Int) (a : Option Addr) (len cap : Nat) (w : World) (hl : 200 < len) (hm : len ≤ maxLen) :
    Calls Try.prog 6 #[.int .u32 n, .int .u8 r, .slice a len cap] w fun e w' => e = .returned (.bool true) ∧ Below w.heap.size w w' := by
  unfold maxLen at hm
  go_enter Try.func6, Try.ntmps6
  go_wp2_with fail
  refine (known_calls _).mono ?_
  rintro e w2 ⟨rfl, hb⟩
  have S2 := Aside0.mk hb
  clear hb
  go_wp2
  go_ret
  exact ⟨rfl, S2.out⟩

theorem bufferBounds_walk (n r : Int) (a : Option Addr) (len cap : Nat) (Z : Nat → Nat → Int) (w : World) (w0 : (Lit.int .u32 n).wf = true) (w1 : (Lit.int .u8 r).wf = true) (hr : ReadsOps w a len Z) :
    Calls Try.prog 6 #[.int .u32 n, .int .u8 r, .slice a len cap] w fun e w' => e = .returned (.bool true) ∧ Below w.heap.size w w' := by
  by_cases hl : len ≤ 200
  · cases a with
    | none =>
      have h0 : len = 0 := by
        rcases Nat.eq_zero_or_pos len with h | h
        · exact h
        · obtain ⟨_, h, _⟩ := hr.2 h; cases h
      subst h0
      exact bufferBounds_none n r cap w w0 w1 trivial
    | some ad => exact bufferBounds_some n r ad len cap Z w w0 w1 hl hr
  · exact bufferBounds_long n r a len cap w (by omega) hr.1
end Go.Proofs.Ytcjdokddlddlhaa.Own
