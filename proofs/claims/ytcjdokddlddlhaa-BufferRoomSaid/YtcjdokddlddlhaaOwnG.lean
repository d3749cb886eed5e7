/- Contracts of the reference's receiver (layer 6), weak: whatever it answers, it stays a receiver and touches nothing else. -/
import Derived.Test.YtcjdokddlddlhaaOwnF
namespace Go.Proofs.Ytcjdokddlddlhaa.Own
open Go.RowKit Go.Proofs.Ytcjdokddlddlhaa.PBufferOnce Go.Proofs.YtcjdokddlddlhaaW.PrintWords Go.Proofs.YtcjdokddlddlhaaW.PrintLast Go.Proofs.YtcjdokddlddlhaaW.PrintMore
set_option linter.unusedVariables false
set_option linter.unusedSimpArgs false

/-- A reference receiver of some numbers lies at block g. -/
def RSt (w0 w : World) (g : Nat) : Prop := (∃ a b c : Int, w.heap[g]? = some (.cells #[.int .u64 a, .int .i64 b, .int .i64 c] 50 (0, 0))) ∧ w0.heap.size ≤ g ∧ Below w0.heap.size w0 w

theorem RSt.drewN {w0 w : World} {g : Nat} (h : RSt w0 w g) (m : Nat) : RSt w0 (w.drewN m) g := ⟨h.1, h.2.1, pw_below_drewN h.2.2 m⟩
theorem RSt.drew {w0 w : World} {g : Nat} (h : RSt w0 w g) : RSt w0 w.drew g := ⟨h.1, h.2.1, h.2.2.drew⟩
theorem RSt.set0 {w0 w : World} {g : Nat} (h : RSt w0 w g) (x : Int) : RSt w0 (w.setCell ⟨g, 0, none⟩ (.int .u64 x)) g := by
  obtain ⟨⟨a, b, c, hb⟩, h1, h2⟩ := h
  exact ⟨⟨x, b, c, by simpa using blk_set hb 0 (.int .u64 x)⟩, h1, h2.setCell h1 _⟩
theorem RSt.set1 {w0 w : World} {g : Nat} (h : RSt w0 w g) (x : Int) : RSt w0 (w.setCell ⟨g, 1, none⟩ (.int .i64 x)) g := by
  obtain ⟨⟨a, b, c, hb⟩, h1, h2⟩ := h
  exact ⟨⟨a, x, c, by simpa using blk_set hb 1 (.int .i64 x)⟩, h1, h2.setCell h1 _⟩
theorem RSt.cells {w0 w : World} {g : Nat} (h : RSt w0 w g) : ∃ a b c : Int, w.cell? ⟨g, 0, none⟩ = some (.int .u64 a) ∧ w.cell? ⟨g, 1, none⟩ = some (.int .i64 b) ∧ w.cell? ⟨g, 2, none⟩ = some (.int .i64 c) ∧ w.frozen? ⟨g, 0, none⟩ = false ∧ w.frozen? ⟨g, 1, none⟩ = false := by
  obtain ⟨⟨a, b, c, hb⟩, _, _⟩ := h
  exact ⟨a, b, c, (blk_cell hb 0).trans rfl, (blk_cell hb 1).trans rfl, (blk_cell hb 2).trans rfl, blk_frozen hb 0, blk_frozen hb 1⟩
/-- Another block was written: this one is as it was. -/
theorem RSt.other {w0 w w1 : World} {g g' : Nat} (h : RSt w0 w g) (hk : KeepBut w w1 g' none) (hb : Below w0.heap.size w0 w1) (hne : g ≠ g') : RSt w0 w1 g := by
  obtain ⟨⟨a, b, c, hh⟩, h1, h2⟩ := h
  exact ⟨⟨a, b, c, hk.blk hh hne (by simp)⟩, h1, hb⟩
theorem St.other {w0 w w1 : World} {g g' : Nat} {x h r : Int} (s : St w0 w g x h r) (hk : KeepBut w w1 g' none) (hb : Below w0.heap.size w0 w1) (hne : g ≠ g') : St w0 w1 g x h r :=
  ⟨⟨hk.blk s.1.1 hne (by simp), s.1.2⟩, hb⟩

set_option maxHeartbeats 2000000 in
theorem rwiden_calls (a b : Int) (w : World) : Calls Try.prog 24 #[.int .u64 a, .int .u16 b] w fun e w' => ∃ v : Int, e = .returned (.int .u64 v) ∧ w = w' := by
  go_enter Try.func24, Try.ntmps24
  go_wp2
  go_ret
  exact ⟨_, rfl, rfl⟩

set_option maxHeartbeats 2000000 in
theorem rlimit_calls (g : Nat) (w0 w : World) (s : RSt w0 w g) : Calls Try.prog 25 #[.pointer (some ⟨g, 0, none⟩)] w fun e w' => ∃ v : Int, e = .returned (.int .u64 v) ∧ Drawn0 w w' := by
  obtain ⟨a, b, c, c0, c1, c2, f0, f1⟩ := s.cells
  clear s
  go_enter Try.func25, Try.ntmps25
  go_wp2
  go_quiet (fail)
  go_wp2
  go_ret
  exact ⟨_, rfl, by repeat (first | exact Drawn0.refl _ | apply Drawn0.step)⟩

set_option maxHeartbeats 2000000 in
theorem rfree_calls (g : Nat) (w0 w : World) (s : RSt w0 w g) : Calls Try.prog 21 #[.pointer (some ⟨g, 0, none⟩)] w fun e w' => ∃ v : Bool, e = .returned (.bool v) ∧ RSt w0 w' g ∧ KeepBut w w' g none := by
  have S := Aside0.mk s
  obtain ⟨a, b, c, c0, c1, c2, f0, f1⟩ := s.cells
  clear s
  by_cases hz : b = 0
  · have e0 : (b == 0) = true := by simp [hz]
    clear hz
    go_enter Try.func21, Try.ntmps21
    go_wp2
    go_ret
    exact ⟨_, rfl, S.out, KeepBut.refl _ _ _⟩
  · have e0 : (b == 0) = false := by simp [hz]
    clear hz
    go_enter Try.func21, Try.ntmps21
    go_wp2
    go_ret
    exact ⟨_, rfl, S.out.set1 _, (KeepBut.refl _ _ _).set_ _ _⟩
end Go.Proofs.Ytcjdokddlddlhaa.Own
