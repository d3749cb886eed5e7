/- The walk of BufferNew: for every input it returns true. -/
import Derived.Test.YtcjdokddlddlhaaOwnB
namespace Go.Proofs.Ytcjdokddlddlhaa.Own
open Go.RowKit Go.Proofs.Ytcjdokddlddlhaa.PBufferOnce Go.Proofs.YtcjdokddlddlhaaW.PrintWords Go.Proofs.YtcjdokddlddlhaaW.PrintLast Go.Proofs.YtcjdokddlddlhaaW.PrintMore
set_option linter.unusedVariables false
set_option linter.unusedSimpArgs false

set_option maxHeartbeats 4000000 in
set_option maxRecDepth 100000 in
theorem bufferNew_walk (n r : Int) (w : World) (w0 : (Lit.int .u64 n).wf = true) (w1 : (Lit.int .i64 r).wf = true) :
    Calls Try.prog 4 #[.int .u64 n, .int .i64 r] w fun e w' => e = .returned (.bool true) ∧ Below w.heap.size w w' := by
  have hn := lo64 w0
  clear w0 w1
  by_cases hv : n < 4611686018427387904 ∧ 1 ≤ r ∧ r ≤ 8
  · obtain ⟨h1, h2, h3⟩ := hv
    have er : Aside0 (n + (r - 0) = n + r) := Aside0.mk (by omega)
    go_enter Try.func4, Try.ntmps4
    go_wp2_with fail
    refine (new_St n r w w (Below.refl _ _) (by omega) (by omega) (by omega) (by omega)).mono ?_
    rintro e w0 ⟨g, rfl, hS, _, _⟩
    have S0 := Aside0.mk hS
    clear hS
    go_wp2_with fail
    refine (known_calls _).mono ?_
    rintro e w1 ⟨rfl, hb⟩
    have S1 := Aside0.mk (S0.out.below hb)
    clear hb
    go_wp2_with fail
    refine (expects_calls g _ _ _ w _ S1.out).mono ?_
    rintro e w2 ⟨rfl, hS, _⟩
    have S2 := Aside0.mk hS
    clear hS
    go_wp2_with fail
    refine (held_calls g _ _ _ w _ S2.out).mono ?_
    rintro e w3 ⟨rfl, hS, _⟩
    have S3 := Aside0.mk hS
    clear hS
    go_wp2_with fail
    refine (limit_calls g _ _ _ w _ S3.out (by omega) (by omega) (by omega) (by omega) (by omega)).mono ?_
    rw [er.out]
    rintro e w4 ⟨rfl, hS, _⟩
    have S4 := Aside0.mk hS
    clear hS
    go_wp2_with fail
    refine (free_no g _ _ w _ S4.out).mono ?_
    rintro e w5 ⟨rfl, hS, _⟩
    have S5 := Aside0.mk hS
    clear hS
    go_wp2
    go_ret
    exact ⟨rfl, S5.out.2⟩
  · by_cases h1 : 4611686018427387904 ≤ n
    · go_enter Try.func4, Try.ntmps4
      go_wp2_with (first | (go_at_call 9; (with_reducible refine (new_none n r _ (by omega) (by omega)).mono ?_); rintro e w' ⟨rfl, rfl⟩) | (go_at_call 12; (with_reducible refine (known_calls _).mono ?_); rintro e w' ⟨rfl, hb⟩))
      go_ret
      exact ⟨rfl, hb⟩
    · have h1' : n < 4611686018427387904 := by omega
      by_cases h2 : r < 1
      · go_enter Try.func4, Try.ntmps4
        go_wp2_with (first | (go_at_call 9; (with_reducible refine (new_none n r _ (by omega) (by omega)).mono ?_); rintro e w' ⟨rfl, rfl⟩) | (go_at_call 12; (with_reducible refine (known_calls _).mono ?_); rintro e w' ⟨rfl, hb⟩))
        go_ret
        exact ⟨rfl, hb⟩
      · have h3 : 8 < r := by omega
        go_enter Try.func4, Try.ntmps4
        go_wp2_with (first | (go_at_call 9; (with_reducible refine (new_none n r _ (by omega) (by omega)).mono ?_); rintro e w' ⟨rfl, rfl⟩) | (go_at_call 12; (with_reducible refine (known_calls _).mono ?_); rintro e w' ⟨rfl, hb⟩))
        go_ret
        exact ⟨rfl, hb⟩
end Go.Proofs.Ytcjdokddlddlhaa.Own
