/- CreditFull: the other ways, and the walk whole. -/
import Derived.Test.YtcefanjnalbihaaOwnF
namespace Go.Proofs.Ytcefanjnalbihaa.Own
open Go.RowKit Go.Proofs.YtcefanjnalbihaaW.PrintWords Go.Proofs.YtcefanjnalbihaaW.PrintLast Go.Proofs.YtcefanjnalbihaaW.PrintMore
set_option linter.unusedVariables false
set_option linter.unusedSimpArgs false

set_option maxHeartbeats 4000000 in
set_option maxRecDepth 100000 in
theorem creditFull_none (n : Int) (cap : Nat) (w : World) (w0 : (Lit.int .u32 n).wf = true) :
    Calls Try.prog 7 #[.int .u32 n, .slice none 0 cap] w fun e w' => e = .returned (.bool true) ∧ Below w.heap.size w w' := by
  obtain ⟨n0, n1⟩ := lo32 w0
  clear w0
  go_enter Try.func7, Try.ntmps7
  go_wp2_with fail
  refine (new_St n 2 w w (Below.refl _ _) (by omega) (by omega) (by omega) (by omega)).mono ?_
  rintro e w1 ⟨g, rfl, hS⟩
  have S0 := Aside0.mk hS
  clear hS
  go_wp2_with fail
  go_loopw [6] (fun i wr => i = .int .i64 0 ∧ St w wr g n (n + 2)) (fun _ _ => 0)
  case atStart => exact ⟨rfl, S0.out⟩
  case round =>
    obtain ⟨rfl, hS⟩ := hrel
    have S1 := Aside0.mk hS
    clear hS S0
    go_wp2_with fail
    refine (limit_calls g _ _ w _ S1.out).mono ?_
    rintro e w3 ⟨rfl, hS⟩
    have S2 := Aside0.mk hS
    clear hS
    go_wp2_with fail
    go_loopw [8] (fun i wr => ∃ j : Nat, ∃ p : Int, j ≤ 20 ∧ n ≤ p ∧ p ≤ n + 2 ∧ (p < n + 2 → n + 2 - p + j ≤ 8) ∧ i = .int .i64 j ∧ St w wr g p (n + 2)) (fun i _ => 20 - (intOf i).toNat)
    case atStart => exact ⟨0, n, by omega, by omega, by omega, by omega, rfl, S2.out⟩
    case round =>
      obtain ⟨j, p, hj, hp0, hp1, hp2, rfl, hS⟩ := hrel
      have S3 := Aside0.mk hS
      clear hS S2
      by_cases hlt : j < 20
      · by_cases hpl : p = n + 2
        · subst hpl
          go_wp2_with fail
          refine (next_no g _ w _ S3.out (by omega) (by omega)).mono ?_
          rintro e w4 ⟨rfl, hS⟩
          have S4 := Aside0.mk hS
          clear hS
          go_wp2
          go_roundw
          case rel => exact ⟨j + 1, n + 2, by omega, by omega, by omega, by omega, by go_num, S4.out⟩
          case measure => simp [intOf]; omega
        · have hpl' : p < n + 2 := by omega
          clear hpl
          go_wp2_with fail
          refine (next_yes g _ _ w _ S3.out (by omega) hpl' (by omega) (by omega)).mono ?_
          rintro e w4 ⟨rfl, hS⟩
          have S4 := Aside0.mk hS
          clear hS
          go_wp2
          go_roundw
          case rel => exact ⟨j + 1, p + 1, by omega, by omega, by omega, by omega, by go_num, S4.out⟩
          case measure => simp [intOf]; omega
      · obtain rfl : p = n + 2 := by omega
        go_wp2_with fail
        refine (known_calls _).mono ?_
        rintro e w4 ⟨rfl, hb⟩
        have S4 := Aside0.mk (S3.out.below hb)
        clear hb
        go_wp2_with fail
        refine (sent_calls g _ _ w _ S4.out).mono ?_
        rintro e w5 ⟨rfl, hS⟩
        have S5 := Aside0.mk hS
        clear hS
        go_wp2_with fail
        refine (usable_is 0 g _ _ w _ S5.out (by omega) (by omega) (by omega) (by omega) (by omega)).mono ?_
        rintro e w6 ⟨rfl, hS⟩
        have S6 := Aside0.mk hS
        clear hS
        go_wp2
        go_ret
        exact ⟨rfl, S6.out.2.2⟩

set_option maxHeartbeats 4000000 in
theorem creditFull_long (n : Int) (a : Option Addr) (len cap : Nat) (w : World) (w0 : (Lit.int .u32 n).wf = true) (hl : 200 < len) (hm : len ≤ maxLen) :
    Calls Try.prog 7 #[.int .u32 n, .slice a len cap] w fun e w' => e = .returned (.bool true) ∧ Below w.heap.size w w' := by
  obtain ⟨n0, n1⟩ := lo32 w0
  unfold maxLen at hm
  clear w0
  go_enter Try.func7, Try.ntmps7
  go_wp2_with fail
  refine (new_St n 2 w w (Below.refl _ _) (by omega) (by omega) (by omega) (by omega)).mono ?_
  rintro e w1 ⟨g, rfl, hS⟩
  have S0 := Aside0.mk hS
  clear hS
  go_wp2_with fail
  refine (known_calls _).mono ?_
  rintro e w2 ⟨rfl, hb⟩
  have S2 := Aside0.mk (S0.out.below hb)
  clear hb
  go_wp2
  go_ret
  exact ⟨rfl, S2.out.2.2⟩

theorem creditFull_walk (n : Int) (a : Option Addr) (cap : Nat) (l : List Int) (w : World) (w0 : (Lit.int .u32 n).wf = true) (hr : ReadsInt w .u8 a l.length l) (hm : l.length ≤ maxLen) (hw : ∀ x ∈ l, (Lit.int .u8 x).wf = true) (y : l.length * 1 ≤ 140737488351232) :
    Calls Try.prog 7 #[.int .u32 n, .slice a l.length cap] w fun e w' => e = .returned (.bool true) ∧ Below w.heap.size w w' := by
  by_cases hl : l.length ≤ 200
  · cases a with
    | none =>
      have h0 : l.length = 0 := by
        rcases Nat.eq_zero_or_pos l.length with h | h
        · exact h
        · obtain ⟨_, h, _⟩ := hr.2.2 h; cases h
      rw [h0]
      exact creditFull_none n cap w w0
    | some ad => exact creditFull_some n ad cap l w w0 hr hl hw
  · exact creditFull_long n a l.length cap w w0 (by omega) hm
end Go.Proofs.Ytcefanjnalbihaa.Own
