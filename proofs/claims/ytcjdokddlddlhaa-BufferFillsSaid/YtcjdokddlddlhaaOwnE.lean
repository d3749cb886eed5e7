/- The walk of BufferFills: for every input it returns true. -/
import Derived.Test.YtcjdokddlddlhaaOwnB
namespace Go.Proofs.Ytcjdokddlddlhaa.Own
open Go.RowKit Go.Proofs.Ytcjdokddlddlhaa.PBufferOnce Go.Proofs.YtcjdokddlddlhaaW.PrintWords Go.Proofs.YtcjdokddlddlhaaW.PrintLast Go.Proofs.YtcjdokddlddlhaaW.PrintMore
set_option linter.unusedVariables false
set_option linter.unusedSimpArgs false

set_option maxHeartbeats 4000000 in
set_option maxRecDepth 100000 in
theorem bufferFills_walk (n r m : Int) (w : World) (w0 : (Lit.int .u32 n).wf = true) (w1 : (Lit.int .u8 r).wf = true) (w2 : (Lit.int .u8 m).wf = true) :
    Calls Try.prog 5 #[.int .u32 n, .int .u8 r, .int .u8 m] w fun e w' => e = .returned (.bool true) ∧ Below w.heap.size w w' := by
  obtain ⟨n0, n1⟩ := lo32 w0
  obtain ⟨r0, r1⟩ := lo8 w1
  obtain ⟨m0, m1⟩ := lo8 w2
  clear w0 w1 w2
  go_enter Try.func5, Try.ntmps5
  go_wp2_with fail
  refine (new_St n (1 + r % 8) w w (Below.refl _ _) (by omega) (by omega) (by omega) (by omega)).mono ?_
  rintro e w0 ⟨g, rfl, hS, _, _⟩
  have S0 := Aside0.mk hS
  clear hS
  go_wp2_with fail
  go_loopw [9, 10] (fun x i wr => ∃ k : Nat, (k : Int) ≤ 1 + r % 8 ∧ x = .int .u64 (n + k) ∧ i = .int .i64 k ∧ St w wr g (n + k) k (1 + r % 8)) (fun _ i _ => (1 + r % 8).toNat - (intOf i).toNat)
  case atStart => exact ⟨0, by omega, by simp, rfl, by simpa using S0.out⟩
  case round =>
    obtain ⟨k, hk, rfl, rfl, hS⟩ := hrel
    have S1 := Aside0.mk hS
    clear hS S0
    by_cases hlt : (k : Int) < 1 + r % 8
    · have S0 := S1
      go_wp2_with fail
      refine (come_ok (n + k) g _ _ _ _ w _ S0.out (by omega) (by omega) (by omega) (by omega) (by omega) (widen_near _ _ _ (by omega) (by omega) (by omega) (by omega) rfl) (by omega) (by omega)).mono ?_
      rintro e w1 ⟨rfl, hS, _⟩
      have S1 := Aside0.mk hS
      clear hS
      go_wp2
      go_roundw
      case rel => exact ⟨k + 1, by omega, by go_num, by go_num, by have := S1.out; rw [Int.add_assoc] at this; simpa using this⟩
      case measure => simp [intOf]; omega
    · have e0 : decide ((k : Int) < 1 + r % 8) = false := decide_eq_false hlt
      have ek : Aside0 ((k : Int) = 1 + r % 8) := Aside0.mk (by omega)
      clear hlt
      go_wp2_with fail
      go_loopw [9, 11] (fun x i wr => ∃ j : Nat, (j : Int) ≤ m % 20 ∧ x = .int .u64 (n + k + j) ∧ i = .int .i64 j ∧ St w wr g (n + k + j) (1 + r % 8) (1 + r % 8)) (fun _ i _ => (m % 20).toNat - (intOf i).toNat)
      case atStart => exact ⟨0, by omega, by simp, rfl, by have := S1.out; rw [ek.out] at this; simpa [ek.out] using this⟩
      case round =>
        obtain ⟨j, hj, rfl, rfl, hS⟩ := hrel
        have S2 := Aside0.mk hS
        clear hS S1 e0
        by_cases hlt : (j : Int) < m % 20
        · have S0 := S2
          go_wp2_with fail
          refine (come_over g _ _ _ _ w _ S0.out (by omega) (by omega) (by omega) (by omega) (by rw [widen_near _ (n + k + j) _ (by omega) (by omega) (by omega) (by omega) rfl]; omega)).mono ?_
          rintro e w1 ⟨rfl, hS, _⟩
          have S1 := Aside0.mk hS
          clear hS
          go_wp2_with fail
          refine (free_yes g _ _ _ w _ S1.out (by omega) (by omega)).mono ?_
          rintro e w2 ⟨rfl, hS, _⟩
          have S2 := Aside0.mk hS
          clear hS
          go_wp2_with fail
          refine (come_ok (n + k + j) g _ _ _ _ w _ S2.out (by omega) (by omega) (by omega) (by omega) (by omega) (widen_near _ _ _ (by omega) (by omega) (by omega) (by omega) rfl) (by omega) (by omega)).mono ?_
          rintro e w3 ⟨rfl, hS, _⟩
          have S3 := Aside0.mk hS
          clear hS
          go_wp2
          go_roundw
          case rel => exact ⟨j + 1, by omega, by go_num, by go_num, by have := S3.out; rw [Int.add_assoc, Int.sub_add_cancel] at this; simpa using this⟩
          case measure => simp [intOf]; omega
        · have e0 : decide ((j : Int) < m % 20) = false := decide_eq_false hlt
          clear hlt
          have S0 := S2
          go_wp2_with fail
          refine (known_calls _).mono ?_
          rintro e w1 ⟨rfl, hb⟩
          have S1 := Aside0.mk (S0.out.below hb)
          clear hb
          go_wp2_with fail
          refine (held_calls g _ _ _ w _ S1.out).mono ?_
          rintro e w2 ⟨rfl, hS, _⟩
          have S2 := Aside0.mk hS
          clear hS
          go_wp2_with fail
          refine (expects_calls g _ _ _ w _ S2.out).mono ?_
          rintro e w3 ⟨rfl, hS, _⟩
          have S3 := Aside0.mk hS
          clear hS
          go_wp2
          go_ret
          exact ⟨rfl, S3.out.2⟩
end Go.Proofs.Ytcjdokddlddlhaa.Own
