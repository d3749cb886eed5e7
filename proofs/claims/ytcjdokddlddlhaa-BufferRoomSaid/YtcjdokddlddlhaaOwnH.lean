/- Contracts of the reference's Come and Hear (weak), and of Come and Hear whatever the number (layer 6). -/
import Derived.Test.YtcjdokddlddlhaaOwnG
namespace Go.Proofs.Ytcjdokddlddlhaa.Own
open Go.RowKit Go.Proofs.Ytcjdokddlddlhaa.PBufferOnce Go.Proofs.YtcjdokddlddlhaaW.PrintWords Go.Proofs.YtcjdokddlddlhaaW.PrintLast Go.Proofs.YtcjdokddlddlhaaW.PrintMore
set_option linter.unusedVariables false
set_option linter.unusedSimpArgs false

set_option maxHeartbeats 4000000 in
set_option maxRecDepth 100000 in
theorem rcome_calls (g : Nat) (b : Int) (w0 w : World) (s : RSt w0 w g) : Calls Try.prog 20 #[.pointer (some ⟨g, 0, none⟩), .int .u16 b] w fun e w' => ∃ v : Int, e = .returned (.int .i64 v) ∧ RSt w0 w' g ∧ KeepBut w w' g none := by
  have S := Aside0.mk s
  obtain ⟨a, b', c, c0, c1, c2, f0, f1⟩ := s.cells
  clear s
  go_enter Try.func20, Try.ntmps20
  go_wp2_with (first | (go_at_call 24; (with_reducible refine (rwiden_calls _ _ _).mono ?_); rintro e w' ⟨v, rfl, rfl⟩) | (go_at_call 25; (with_reducible refine (rlimit_calls g w0 _ S.out).mono ?_); rintro e w' ⟨u, rfl, ⟨nd, rfl⟩⟩))
  all_goals
    go_ret
    refine ⟨_, rfl, ?_, ?_⟩
    · repeat (first | exact S.out | apply RSt.set0 | apply RSt.set1 | apply RSt.drewN | apply RSt.drew)
    · repeat (first | exact KeepBut.refl _ _ _ | apply KeepBut.set_ | apply keep_drewN | apply keep_drew)

def RB (w0 w : World) (g : Nat) (e : Ending) (w' : World) : Prop := ∃ v : Bool, e = .returned (.bool v) ∧ RSt w0 w' g ∧ KeepBut w w' g none

set_option maxHeartbeats 4000000 in
set_option maxRecDepth 100000 in
theorem rhear_calls (g : Nat) (b : Int) (w0 w : World) (s : RSt w0 w g) : Calls Try.prog 22 #[.pointer (some ⟨g, 0, none⟩), .int .u16 b] w (RB w0 w g) := by
  have S := Aside0.mk s
  obtain ⟨a, b', c, c0, c1, c2, f0, f1⟩ := s.cells
  clear s
  go_enter Try.func22, Try.ntmps22
  go_wp2_with (first | (go_at_call 24; (with_reducible refine (rwiden_calls _ _ _).mono ?_); rintro e w' ⟨v, rfl, rfl⟩) | (go_at_call 25; (with_reducible refine (rlimit_calls g w0 _ S.out).mono ?_); rintro e w' ⟨u, rfl, ⟨nd, rfl⟩⟩))
  all_goals
    go_ret
    unfold RB
    refine ⟨_, rfl, ?_, ?_⟩
    · repeat (first | exact S.out | apply RSt.set0 | apply RSt.set1 | apply RSt.drewN | apply RSt.drew)
    · repeat (first | exact KeepBut.refl _ _ _ | apply KeepBut.set_ | apply keep_drewN | apply keep_drew)

/-- One receiver may come to be another: what never falls. -/
def Goes (x h r x' h' : Int) : Prop := x ≤ x' ∧ x' ≤ x + 8 ∧ 0 ≤ h' ∧ h' ≤ r ∧ x + (r - h) ≤ x' + (r - h')

theorem come_any (g : Nat) (x h r b : Int) (w0 w : World) (s : St w0 w g x h r) (x0 : 0 ≤ x) (x1 : x ≤ 9000000000000000000) (h0 : 0 ≤ h) (h1 : h ≤ r) (h2 : r ≤ 8) :
    Calls Try.prog 14 #[.pointer (some ⟨g, 0, none⟩), .int .u16 b] w fun e w' => ∃ v x' h' : Int, e = .returned (.int .u16 v) ∧ Goes x h r x' h' ∧ St w0 w' g x' h' r ∧ KeepBut w w' g none := by
  by_cases c1 : widen x b < x
  · exact (come_stale g x h r b w0 w s x0 c1).mono fun e w' ⟨he, hs, hk⟩ => ⟨60, x, h, he, by unfold Goes; omega, hs, hk⟩
  · by_cases c2 : widen x b < x + (r - h)
    · exact (come_ok (widen x b) g x h r b w0 w s x0 x1 h0 h1 h2 rfl (by omega) c2).mono fun e w' ⟨he, hs, hk⟩ => ⟨0, widen x b + 1, h + 1, he, by unfold Goes; omega, hs, hk⟩
    · exact (come_over g x h r b w0 w s x0 h0 h1 h2 (by omega)).mono fun e w' ⟨he, hs, hk⟩ => ⟨61, x, h, he, by unfold Goes; omega, hs, hk⟩

theorem hear_any (g : Nat) (x h r b : Int) (w0 w : World) (s : St w0 w g x h r) (x0 : 0 ≤ x) (h0 : 0 ≤ h) (h1 : h ≤ r) (h2 : r ≤ 8) :
    Calls Try.prog 11 #[.pointer (some ⟨g, 0, none⟩), .int .u16 b] w fun e w' => ∃ (v : Bool) (x' h' : Int), e = .returned (.bool v) ∧ Goes x h r x' h' ∧ St w0 w' g x' h' r ∧ KeepBut w w' g none := by
  by_cases c1 : widen x b ≤ x ∨ x + (r - h) < widen x b
  · exact (hear_no g x h r b w0 w s x0 h0 h1 h2 c1).mono fun e w' ⟨he, hs, hk⟩ => ⟨false, x, h, he, by unfold Goes; omega, hs, hk⟩
  · exact (hear_yes (widen x b) g x h r b w0 w s x0 h0 h1 h2 rfl (by omega) (by omega)).mono fun e w' ⟨he, hs, hk⟩ => ⟨true, widen x b, h, he, by unfold Goes; omega, hs, hk⟩

theorem free_goes (g : Nat) (x h r : Int) (w0 w : World) (s : St w0 w g x h r) (h0 : 0 ≤ h) (h1 : h ≤ r) (h2 : r ≤ 8) :
    Calls Try.prog 16 #[.pointer (some ⟨g, 0, none⟩)] w fun e w' => ∃ (v : Bool) (x' h' : Int), e = .returned (.bool v) ∧ Goes x h r x' h' ∧ St w0 w' g x' h' r ∧ KeepBut w w' g none :=
  (free_any g x h r w0 w s h0 (by omega)).mono fun e w' ⟨b, h', a1, a2, he, hs, hk⟩ => ⟨b, x, h', he, by unfold Goes; omega, hs, hk⟩
end Go.Proofs.Ytcjdokddlddlhaa.Own
