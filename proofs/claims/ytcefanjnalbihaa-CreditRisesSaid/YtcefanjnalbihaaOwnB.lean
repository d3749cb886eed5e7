/- The walk of layer 5's known. -/
import Derived.Test.YtcefanjnalbihaaOwnA
namespace Go.Proofs.Ytcefanjnalbihaa.Own
open Go.RowKit Go.Proofs.YtcefanjnalbihaaW.PrintWords Go.Proofs.YtcefanjnalbihaaW.PrintLast Go.Proofs.YtcefanjnalbihaaW.PrintMore
set_option linter.unusedVariables false
set_option linter.unusedSimpArgs false

set_option maxHeartbeats 4000000 in
set_option maxRecDepth 100000 in
/-- The chapter's example stands. -/
theorem known_calls (w : World) : Calls Try.prog 10 #[] w fun e w' => e = .returned (.bool true) ∧ Below w.heap.size w w' := by
  have e1 := Aside0.mk (show heard 65536 65536 1 = 65537 by decide)
  have e2 := Aside0.mk (show heard 65536 65537 65535 = 65537 by decide)
  have d1 := Aside0.mk (show decide ((65536 : Int) < widen 65536 1 ∧ widen 65536 1 ≤ 65536 + 8) = true by decide)
  have d2 := Aside0.mk (show decide ((65537 : Int) < widen 65537 65535 ∧ widen 65537 65535 ≤ 65536 + 8) = false by decide)
  go_enter Try.func10, Try.ntmps10
  go_wp2_with fail
  refine (new_St 65534 2 w w (Below.refl _ _) (by omega) (by omega) (by omega) (by omega)).mono ?_
  rintro e w1 ⟨g, rfl, hS⟩
  have S0 := Aside0.mk hS
  clear hS
  go_wp2_with fail
  refine (next_yes g 65534 (65534 + 2) w w1 S0.out (by omega) (by omega) (by omega) (by omega)).mono ?_
  rintro e w2 ⟨rfl, hS⟩
  have S1 := Aside0.mk hS
  clear hS
  go_wp2_with fail
  refine (next_yes g (65534 + 1) (65534 + 2) w w2 S1.out (by omega) (by omega) (by omega) (by omega)).mono ?_
  rintro e w3 ⟨rfl, hS⟩
  have S2 := Aside0.mk hS
  clear hS
  go_wp2_with fail
  refine (next_no g 65536 w w3 S2.out (by omega) (by omega)).mono ?_
  rintro e w4 ⟨rfl, hS⟩
  have S3 := Aside0.mk hS
  clear hS
  go_wp2_with fail
  refine (hear_calls g 65536 65536 1 w w4 S3.out (by omega) (by omega)).mono ?_
  rw [d1.out]
  rintro e w5 ⟨rfl, hS⟩
  rw [e1.out] at hS
  have S4 := Aside0.mk hS
  clear hS
  go_wp2_with fail
  refine (usable_calls g 65536 65537 w w5 S4.out (by omega) (by omega) (by omega) (by omega)).mono ?_
  rintro e w6 ⟨rfl, hS⟩
  have S5 := Aside0.mk hS
  clear hS
  go_wp2_with fail
  refine (hear_calls g 65536 65537 65535 w w6 S5.out (by omega) (by omega)).mono ?_
  rw [d2.out]
  rintro e w7 ⟨rfl, hS⟩
  rw [e2.out] at hS
  have S6 := Aside0.mk hS
  clear hS
  go_wp2_with fail
  refine (new_none 0 0 w7 (by omega) (by omega)).mono ?_
  rintro e w8 ⟨rfl, rfl⟩
  go_wp2
  go_ret
  exact ⟨rfl, S6.out.2.2⟩
end Go.Proofs.Ytcefanjnalbihaa.Own
