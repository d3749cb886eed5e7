/- The walk of BufferHears: for every input it returns true. -/
import Derived.Test.YtcjdokddlddlhaaOwnB
namespace Go.Proofs.Ytcjdokddlddlhaa.Own
open Go.RowKit Go.Proofs.Ytcjdokddlddlhaa.PBufferOnce Go.Proofs.YtcjdokddlddlhaaW.PrintWords Go.Proofs.YtcjdokddlddlhaaW.PrintLast Go.Proofs.YtcjdokddlddlhaaW.PrintMore
set_option linter.unusedVariables false
set_option linter.unusedSimpArgs false

set_option maxHeartbeats 4000000 in
set_option maxRecDepth 100000 in
theorem bufferHears_walk (n r l : Int) (w : World) (w0 : (Lit.int .u32 n).wf = true) (w1 : (Lit.int .u8 r).wf = true) (w2 : (Lit.int .u8 l).wf = true) :
    Calls Try.prog 3 #[.int .u32 n, .int .u8 r, .int .u8 l] w fun e w' => e = .returned (.bool true) ∧ Below w.heap.size w w' := by
  obtain ⟨n0, n1⟩ := lo32 w0
  obtain ⟨r0, r1⟩ := lo8 w1
  obtain ⟨l0, l1⟩ := lo8 w2
  clear w0 w1 w2
  have er : Aside0 (n + (1 + r % 8 - 0) = n + (1 + r % 8)) := Aside0.mk (by omega)
  have er2 : Aside0 (n + l % 12 + (1 + r % 8 - 0) = n + (1 + r % 8) + l % 12) := Aside0.mk (by omega)
  by_cases hf : 0 < l % 12 ∧ l % 12 ≤ 1 + r % 8
  · obtain ⟨f1, f2⟩ := hf
    go_enter Try.func3, Try.ntmps3
    go_wp2_with fail
    refine (new_St n (1 + r % 8) w w (Below.refl _ _) (by omega) (by omega) (by omega) (by omega)).mono ?_
    rintro e w0 ⟨g, rfl, hS, _, _⟩
    have S0 := Aside0.mk hS
    clear hS
    go_wp2_with fail
    refine (limit_calls g _ _ _ w _ S0.out (by omega) (by omega) (by omega) (by omega) (by omega)).mono ?_
    rw [er.out]
    rintro e w1 ⟨rfl, hS, _⟩
    have S1 := Aside0.mk hS
    clear hS
    go_wp2_with fail
    refine (hear_yes (n + l % 12) g _ _ _ _ w _ S1.out (by omega) (by omega) (by omega) (by omega) (widen_near _ _ _ (by omega) (by omega) (by omega) (by omega) rfl) (by omega) (by omega)).mono ?_
    rintro e w2 ⟨rfl, hS, _⟩
    have S2 := Aside0.mk hS
    clear hS
    go_wp2_with fail
    refine (known_calls _).mono ?_
    rintro e w3 ⟨rfl, hb⟩
    have S3 := Aside0.mk (S2.out.below hb)
    clear hb
    go_wp2_with fail
    refine (limit_calls g _ _ _ w _ S3.out (by omega) (by omega) (by omega) (by omega) (by omega)).mono ?_
    rw [er2.out]
    rintro e w4 ⟨rfl, hS, _⟩
    have S4 := Aside0.mk hS
    clear hS
    go_wp2_with fail
    refine (come_stale g _ _ _ _ w _ S4.out (by omega) (by rw [widen_near _ (n) _ (by omega) (by omega) (by omega) (by omega) rfl]; omega)).mono ?_
    rintro e w5 ⟨rfl, hS, _⟩
    have S5 := Aside0.mk hS
    clear hS
    go_wp2_with fail
    refine (held_calls g _ _ _ w _ S5.out).mono ?_
    rintro e w6 ⟨rfl, hS, _⟩
    have S6 := Aside0.mk hS
    clear hS
    go_wp2
    go_ret
    exact ⟨rfl, S6.out.2⟩
  · by_cases f1 : 0 < l % 12
    · have f2 : 1 + r % 8 < l % 12 := by omega
      have d2 : decide (l % 12 ≤ 1 + r % 8) = false := by simp; omega
      clear hf
      go_enter Try.func3, Try.ntmps3
      go_wp2_with fail
      refine (new_St n (1 + r % 8) w w (Below.refl _ _) (by omega) (by omega) (by omega) (by omega)).mono ?_
      rintro e w0 ⟨g, rfl, hS, _, _⟩
      have S0 := Aside0.mk hS
      clear hS
      go_wp2_with fail
      refine (limit_calls g _ _ _ w _ S0.out (by omega) (by omega) (by omega) (by omega) (by omega)).mono ?_
      rw [er.out]
      rintro e w1 ⟨rfl, hS, _⟩
      have S1 := Aside0.mk hS
      clear hS
      go_wp2_with fail
      refine (hear_no g _ _ _ _ w _ S1.out (by omega) (by omega) (by omega) (by omega) (by rw [widen_near _ (n + l % 12) _ (by omega) (by omega) (by omega) (by omega) rfl]; omega)).mono ?_
      rintro e w2 ⟨rfl, hS, _⟩
      have S2 := Aside0.mk hS
      clear hS
      go_wp2_with fail
      refine (known_calls _).mono ?_
      rintro e w3 ⟨rfl, hb⟩
      have S3 := Aside0.mk (S2.out.below hb)
      clear hb
      go_wp2_with fail
      refine (limit_calls g _ _ _ w _ S3.out (by omega) (by omega) (by omega) (by omega) (by omega)).mono ?_
      rw [er.out]
      rintro e w4 ⟨rfl, hS, _⟩
      have S4 := Aside0.mk hS
      clear hS
      go_wp2_with fail
      refine (expects_calls g _ _ _ w _ S4.out).mono ?_
      rintro e w5 ⟨rfl, hS, _⟩
      have S5 := Aside0.mk hS
      clear hS
      go_wp2
      go_ret
      exact ⟨rfl, S5.out.2⟩
    · have d1 : decide (0 < l % 12) = false := decide_eq_false f1
      clear hf
      go_enter Try.func3, Try.ntmps3
      go_wp2_with fail
      refine (new_St n (1 + r % 8) w w (Below.refl _ _) (by omega) (by omega) (by omega) (by omega)).mono ?_
      rintro e w0 ⟨g, rfl, hS, _, _⟩
      have S0 := Aside0.mk hS
      clear hS
      go_wp2_with fail
      refine (limit_calls g _ _ _ w _ S0.out (by omega) (by omega) (by omega) (by omega) (by omega)).mono ?_
      rw [er.out]
      rintro e w1 ⟨rfl, hS, _⟩
      have S1 := Aside0.mk hS
      clear hS
      go_wp2_with fail
      refine (hear_no g _ _ _ _ w _ S1.out (by omega) (by omega) (by omega) (by omega) (by rw [widen_near _ (n + l % 12) _ (by omega) (by omega) (by omega) (by omega) rfl]; omega)).mono ?_
      rintro e w2 ⟨rfl, hS, _⟩
      have S2 := Aside0.mk hS
      clear hS
      go_wp2_with fail
      refine (known_calls _).mono ?_
      rintro e w3 ⟨rfl, hb⟩
      have S3 := Aside0.mk (S2.out.below hb)
      clear hb
      go_wp2_with fail
      refine (limit_calls g _ _ _ w _ S3.out (by omega) (by omega) (by omega) (by omega) (by omega)).mono ?_
      rw [er.out]
      rintro e w4 ⟨rfl, hS, _⟩
      have S4 := Aside0.mk hS
      clear hS
      go_wp2_with fail
      refine (expects_calls g _ _ _ w _ S4.out).mono ?_
      rintro e w5 ⟨rfl, hS, _⟩
      have S5 := Aside0.mk hS
      clear hS
      go_wp2
      go_ret
      exact ⟨rfl, S5.out.2⟩
end Go.Proofs.Ytcjdokddlddlhaa.Own
