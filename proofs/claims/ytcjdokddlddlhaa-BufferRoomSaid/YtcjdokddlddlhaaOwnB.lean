/- The walks of layer 6's known, BufferNew, BufferHears. -/
import Derived.Test.YtcjdokddlddlhaaOwnA
namespace Go.Proofs.Ytcjdokddlddlhaa.Own
open Go.RowKit Go.Proofs.Ytcjdokddlddlhaa.PBufferOnce Go.Proofs.YtcjdokddlddlhaaW.PrintWords Go.Proofs.YtcjdokddlddlhaaW.PrintLast Go.Proofs.YtcjdokddlddlhaaW.PrintMore
set_option linter.unusedVariables false
set_option linter.unusedSimpArgs false

set_option maxHeartbeats 4000000 in
set_option maxRecDepth 100000 in
/-- The chapter's example stands. -/
theorem known_calls (w : World) : Calls Try.prog 12 #[] w fun e w' => e = .returned (.bool true) ∧ Below w.heap.size w w' := by
  have d1 := Aside0.mk (show widen 10 11 = 11 by decide)
  have d2 := Aside0.mk (show widen (11 + 1) 10 = 10 by decide)
  have d3 := Aside0.mk (show widen (11 + 1) 13 = 13 by decide)
  go_enter Try.func12, Try.ntmps12
  go_wp2_with fail
  refine (new_St 10 2 w w (Below.refl _ _) (by omega) (by omega) (by omega) (by omega)).mono ?_
  rintro e w1 ⟨g, rfl, hS, _, _⟩
  have S0 := Aside0.mk hS
  clear hS
  go_wp2_with fail
  refine (come_ok 11 g _ _ _ _ w _ S0.out (by omega) (by omega) (by omega) (by omega) (by omega) d1.out (by omega) (by omega)).mono ?_
  rintro e w2 ⟨rfl, hS, _⟩
  have S1 := Aside0.mk hS
  clear hS
  go_wp2_with fail
  refine (limit_calls g _ _ _ w _ S1.out (by omega) (by omega) (by omega) (by omega) (by omega)).mono ?_
  rintro e w3 ⟨rfl, hS, _⟩
  have S2 := Aside0.mk hS
  clear hS
  go_wp2_with fail
  refine (come_stale g _ _ _ _ w _ S2.out (by omega) (by have := d2.out; omega)).mono ?_
  rintro e w4 ⟨rfl, hS, _⟩
  have S3 := Aside0.mk hS
  clear hS
  go_wp2_with fail
  refine (come_over g _ _ _ _ w _ S3.out (by omega) (by omega) (by omega) (by omega) (by have := d3.out; omega)).mono ?_
  rintro e w5 ⟨rfl, hS, _⟩
  have S4 := Aside0.mk hS
  clear hS
  go_wp2_with fail
  refine (hear_yes 13 g _ _ _ _ w _ S4.out (by omega) (by omega) (by omega) (by omega) d3.out (by omega) (by omega)).mono ?_
  rintro e w6 ⟨rfl, hS, _⟩
  have S5 := Aside0.mk hS
  clear hS
  go_wp2_with fail
  refine (expects_calls g _ _ _ w _ S5.out).mono ?_
  rintro e w7 ⟨rfl, hS, _⟩
  have S6 := Aside0.mk hS
  clear hS
  go_wp2_with fail
  refine (limit_calls g _ _ _ w _ S6.out (by omega) (by omega) (by omega) (by omega) (by omega)).mono ?_
  rintro e w8 ⟨rfl, hS, _⟩
  have S7 := Aside0.mk hS
  clear hS
  go_wp2_with fail
  refine (held_calls g _ _ _ w _ S7.out).mono ?_
  rintro e w9 ⟨rfl, hS, _⟩
  have S8 := Aside0.mk hS
  clear hS
  go_wp2_with fail
  refine (new_none 0 9 _ (by omega) (by omega)).mono ?_
  rintro e w10 ⟨rfl, rfl⟩
  go_wp2
  go_ret
  exact ⟨rfl, S8.out.2⟩
end Go.Proofs.Ytcjdokddlddlhaa.Own
