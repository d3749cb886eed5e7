/- Contracts of Widen, New, open, Next, Usable, Sent, Limit, Hear (layer 5), by hand, over the printed words. -/
import Derived.Test.YtcefanjnalbihaaPCreditRisesx0
namespace Go.Proofs.Ytcefanjnalbihaa.Own
open Go.RowKit Go.Proofs.YtcefanjnalbihaaW.PrintWords Go.Proofs.YtcefanjnalbihaaW.PrintLast Go.Proofs.YtcefanjnalbihaaW.PrintMore
set_option linter.unusedVariables false
set_option linter.unusedSimpArgs false

theorem w16 (n : Int) : IntKind.u16.wrap n = n % 65536 := by simp [IntKind.wrap, IntKind.bits, IntKind.signed]
theorem w64 (n : Int) : IntKind.u64.wrap n = n % 18446744073709551616 := by simp [IntKind.wrap, IntKind.bits, IntKind.signed]

/-- The long number of a short one that is nearest to another. -/
def widen (a b : Int) : Int := ((a - 32768) % 18446744073709551616 + (b - (a - 32768)) % 65536) % 18446744073709551616

theorem widen_range (a b : Int) : 0 ≤ widen a b ∧ widen a b ≤ 18446744073709551615 := by unfold widen; omega

/-- A sender of so many sent and such a limit lies at block g, which the call laid; what lay in w0 is as it was. -/
def St (w0 w : World) (g : Nat) (s l : Int) : Prop := w.heap[g]? = some (.cells #[.int .u64 s, .int .u64 l] 45 (0, 0)) ∧ w0.heap.size ≤ g ∧ Below w0.heap.size w0 w

theorem St.drewN {w0 w : World} {g : Nat} {s l : Int} (h : St w0 w g s l) (m : Nat) : St w0 (w.drewN m) g s l := ⟨h.1, h.2.1, pw_below_drewN h.2.2 m⟩
theorem St.drew {w0 w : World} {g : Nat} {s l : Int} (h : St w0 w g s l) : St w0 w.drew g s l := ⟨h.1, h.2.1, h.2.2.drew⟩
theorem St.below {w0 w w1 : World} {g : Nat} {s l : Int} (h : St w0 w g s l) (hb : Below w.heap.size w w1) : St w0 w1 g s l := ⟨blk_below h.1 hb, h.2.1, below_then h.2.2 h.2.2.size hb⟩
theorem St.set0 {w0 w : World} {g : Nat} {s l : Int} (h : St w0 w g s l) (x : Int) : St w0 (w.setCell ⟨g, 0, none⟩ (.int .u64 x)) g x l := ⟨by simpa using blk_set h.1 0 (.int .u64 x), h.2.1, h.2.2.setCell h.2.1 _⟩
theorem St.set1 {w0 w : World} {g : Nat} {s l : Int} (h : St w0 w g s l) (x : Int) : St w0 (w.setCell ⟨g, 1, none⟩ (.int .u64 x)) g s x := ⟨by simpa using blk_set h.1 1 (.int .u64 x), h.2.1, h.2.2.setCell h.2.1 _⟩
theorem St.c0 {w0 w : World} {g : Nat} {s l : Int} (h : St w0 w g s l) : w.cell? ⟨g, 0, none⟩ = some (.int .u64 s) := (blk_cell h.1 0).trans rfl
theorem St.c1 {w0 w : World} {g : Nat} {s l : Int} (h : St w0 w g s l) : w.cell? ⟨g, 1, none⟩ = some (.int .u64 l) := (blk_cell h.1 1).trans rfl
theorem St.f0 {w0 w : World} {g : Nat} {s l : Int} (h : St w0 w g s l) : w.frozen? ⟨g, 0, none⟩ = false := blk_frozen h.1 0
theorem St.f1 {w0 w : World} {g : Nat} {s l : Int} (h : St w0 w g s l) : w.frozen? ⟨g, 1, none⟩ = false := blk_frozen h.1 1

set_option maxHeartbeats 2000000 in
theorem short_calls (a : Int) (w : World) : Calls Try.prog 18 #[.int .u64 a] w fun e w' => e = .returned (.int .u16 (IntKind.u16.wrap a)) ∧ Drawn0 w w' := by
  go_enter Try.func18, Try.ntmps18
  go_wp2
  go_ret
  exact ⟨by first | rfl | (simp; done), by repeat (first | exact Drawn0.refl _ | apply Drawn0.step)⟩

set_option maxHeartbeats 2000000 in
theorem widen_calls (a b : Int) (w : World) : Calls Try.prog 16 #[.int .u64 a, .int .u16 b] w fun e w' => e = .returned (.int .u64 (widen a b)) ∧ Drawn0 w w' := by
  have hfin : Aside0 (IntKind.u64.wrap (IntKind.u64.wrap (a - 32768) + IntKind.u64.wrap (IntKind.u16.wrap (b - IntKind.u16.wrap (IntKind.u64.wrap (a - 32768))))) = widen a b) := Aside0.mk (by
    simp only [w16, w64, widen]; omega)
  go_enter Try.func16, Try.ntmps16
  go_wp2_with (go_at_call 18; (with_reducible refine (short_calls _ _).mono ?_); rintro e w' ⟨rfl, ⟨nd, rfl⟩⟩)
  go_ret
  exact ⟨by rw [← hfin.out]; rfl, by repeat (first | exact Drawn0.refl _ | apply Drawn0.step)⟩

set_option maxHeartbeats 2000000 in
theorem new_ok (n r : Int) (w : World) (h0 : 0 ≤ n) (h1 : n < 4611686018427387904) (h2 : 1 ≤ r) (h3 : r ≤ 8) :
    Calls Try.prog 9 #[.int .u64 n, .int .i64 r] w fun e w' => e = .returned (.pointer (some ⟨w.heap.size, 0, none⟩)) ∧ w' = w.alloc (.cells #[.int .u64 n, .int .u64 (n + r)] 45) := by
  have e1 : decide (4611686018427387904 ≤ n) = false := by simp; omega
  have e2 : decide (r < 1) = false := by simp; omega
  have e3 : decide (8 < r) = false := by simp; omega
  go_enter Try.func9, Try.ntmps9
  go_wp2
  go_ret
  exact ⟨rfl, rfl⟩

set_option maxHeartbeats 2000000 in
theorem open_calls (s l : Int) (w : World) (h0 : 0 ≤ s) (h1 : s ≤ l) (h2 : l ≤ s + 8) (h3 : l < 18446744073709551616) :
    Calls Try.prog 17 #[.agg #[.int .u64 s, .int .u64 l]] w fun e w' => e = .returned (.int .i64 (l - s)) ∧ Below w.heap.size w w' := by
  go_enter Try.func17, Try.ntmps17
  go_wp2
  go_ret
  exact ⟨rfl, (Below.refl _ _).alloc (Nat.le_refl _) _⟩

set_option maxHeartbeats 2000000 in
theorem new_none (n r : Int) (w : World) (h0 : 0 ≤ n) (h : 4611686018427387904 ≤ n ∨ r < 1 ∨ 8 < r) :
    Calls Try.prog 9 #[.int .u64 n, .int .i64 r] w fun e w' => e = .returned (.pointer none) ∧ w' = w := by
  by_cases c1 : 4611686018427387904 ≤ n
  · have e1 : decide (4611686018427387904 ≤ n) = true := by simp; omega
    go_enter Try.func9, Try.ntmps9
    go_wp2
    go_ret
    exact ⟨rfl, rfl⟩
  · have e1 : decide (4611686018427387904 ≤ n) = false := by simp; omega
    by_cases c2 : r < 1
    · have e2 : decide (r < 1) = true := by simp; omega
      go_enter Try.func9, Try.ntmps9
      go_wp2
      go_ret
      exact ⟨rfl, rfl⟩
    · have e2 : decide (r < 1) = false := by simp; omega
      have e3 : decide (8 < r) = true := by simp; omega
      go_enter Try.func9, Try.ntmps9
      go_wp2
      go_ret
      exact ⟨rfl, rfl⟩

theorem new_St (n r : Int) (w0 w : World) (hB : Below w0.heap.size w0 w) (h0 : 0 ≤ n) (h1 : n < 4611686018427387904) (h2 : 1 ≤ r) (h3 : r ≤ 8) :
    Calls Try.prog 9 #[.int .u64 n, .int .i64 r] w fun e w' => ∃ g, e = .returned (.pointer (some ⟨g, 0, none⟩)) ∧ St w0 w' g n (n + r) :=
  (new_ok n r w h0 h1 h2 h3).mono fun e w' ⟨he, hw⟩ => ⟨_, he, by subst hw; exact ⟨blk_new _ _, hB.size, below_alloc hB _⟩⟩

set_option maxHeartbeats 2000000 in
theorem usable_calls (g : Nat) (s l : Int) (w0 w : World) (hS : St w0 w g s l) (h0 : 0 ≤ s) (h1 : s ≤ l) (h2 : l ≤ s + 8) (h3 : l < 18446744073709551616) :
    Calls Try.prog 15 #[.pointer (some ⟨g, 0, none⟩)] w fun e w' => e = .returned (.int .i64 (l - s)) ∧ St w0 w' g s l := by
  have HS := Aside0.mk hS
  have hc0 := hS.c0
  have hc1 := hS.c1
  clear hS
  go_enter Try.func15, Try.ntmps15
  go_wp2_with (go_at_call 17; (with_reducible refine (open_calls _ _ _ h0 h1 h2 h3).mono ?_); rintro e w' ⟨rfl, hb⟩; have HB := Aside0.mk hb; clear hb)
  go_ret
  exact ⟨rfl, HS.out.below HB.out⟩

set_option maxHeartbeats 2000000 in
theorem sent_calls (g : Nat) (s l : Int) (w0 w : World) (hS : St w0 w g s l) :
    Calls Try.prog 14 #[.pointer (some ⟨g, 0, none⟩)] w fun e w' => e = .returned (.int .u64 s) ∧ St w0 w' g s l := by
  have HS := Aside0.mk hS
  have hc0 := hS.c0
  clear hS
  go_enter Try.func14, Try.ntmps14
  go_wp2
  go_ret
  exact ⟨rfl, by first | exact HS.out | exact HS.out.drewN _⟩

set_option maxHeartbeats 2000000 in
theorem limit_calls (g : Nat) (s l : Int) (w0 w : World) (hS : St w0 w g s l) :
    Calls Try.prog 12 #[.pointer (some ⟨g, 0, none⟩)] w fun e w' => e = .returned (.int .u64 l) ∧ St w0 w' g s l := by
  have HS := Aside0.mk hS
  have hc1 := hS.c1
  clear hS
  go_enter Try.func12, Try.ntmps12
  go_wp2
  go_ret
  exact ⟨rfl, by first | exact HS.out | exact HS.out.drewN _⟩

set_option maxHeartbeats 2000000 in
theorem next_no (g : Nat) (s : Int) (w0 w : World) (hS : St w0 w g s s) (h0 : 0 ≤ s) (h3 : s < 18446744073709551616) :
    Calls Try.prog 13 #[.pointer (some ⟨g, 0, none⟩)] w fun e w' => e = .returned (.tuple #[.int .u64 0, .bool false]) ∧ St w0 w' g s s := by
  have HS := Aside0.mk hS
  have hc0 := hS.c0
  have hc1 := hS.c1
  clear hS
  have e1 : (s - s == 0) = true := by simp
  go_enter Try.func13, Try.ntmps13
  go_wp2_with (go_at_call 17; (with_reducible refine (open_calls _ _ _ h0 (Int.le_refl _) (by omega) h3).mono ?_); rintro e w' ⟨rfl, hb⟩; have HB := Aside0.mk hb; clear hb)
  go_ret2
  exact ⟨rfl, HS.out.below HB.out⟩

set_option maxHeartbeats 2000000 in
theorem next_yes (g : Nat) (s l : Int) (w0 w : World) (hS : St w0 w g s l) (h0 : 0 ≤ s) (h1 : s < l) (h2 : l ≤ s + 8) (h3 : l < 18446744073709551616) :
    Calls Try.prog 13 #[.pointer (some ⟨g, 0, none⟩)] w fun e w' => e = .returned (.tuple #[.int .u64 s, .bool true]) ∧ St w0 w' g (s + 1) l := by
  have HS := Aside0.mk hS
  have hc0 := hS.c0
  have hc1 := hS.c1
  clear hS
  have e1 : (l - s == 0) = false := by simp; omega
  go_enter Try.func13, Try.ntmps13
  go_wp2_with (go_at_call 17; (with_reducible refine (open_calls _ _ _ h0 (by omega) h2 h3).mono ?_); rintro e w' ⟨rfl, hb⟩; have hS2 := HS.out.below hb; clear hb; have hd0 := hS2.c0; have hd1 := hS2.c1; have hg0 := hS2.f0; have HS2 := Aside0.mk hS2; clear hS2)
  go_ret2
  exact ⟨rfl, HS2.out.set0 _⟩

/-- The limit behind a limit that is heard. -/
def heard (s l b : Int) : Int := if widen l b ≤ l ∨ s + 8 < widen l b then l else widen l b

set_option maxHeartbeats 4000000 in
theorem hear_calls (g : Nat) (s l b : Int) (w0 w : World) (hS : St w0 w g s l) (h0 : 0 ≤ s) (h3 : s + 8 < 18446744073709551616) :
    Calls Try.prog 11 #[.pointer (some ⟨g, 0, none⟩), .int .u16 b] w fun e w' => e = .returned (.bool (decide (l < widen l b ∧ widen l b ≤ s + 8))) ∧ St w0 w' g s (heard s l b) := by
  have HS := Aside0.mk hS
  have hc0 := hS.c0
  have hc1 := hS.c1
  have hf1 := hS.f1
  clear hS
  by_cases c1 : widen l b ≤ l
  · rw [decide_eq_false (by omega), show heard s l b = l from if_pos (Or.inl c1)]
    have e1 : decide (widen l b ≤ l) = true := decide_eq_true c1
    clear c1
    go_enter Try.func11, Try.ntmps11
    go_wp2_with (go_at_call 16; (with_reducible refine (widen_calls _ _ _).mono ?_); rintro e w' ⟨rfl, ⟨nd, rfl⟩⟩)
    go_ret
    exact ⟨rfl, by first | exact HS.out.drewN _ | exact (HS.out.drewN _).drewN _⟩
  · have e1 : decide (widen l b ≤ l) = false := decide_eq_false c1
    by_cases c2 : s + 8 < widen l b
    · rw [decide_eq_false (by omega), show heard s l b = l from if_pos (Or.inr c2)]
      have e2 : decide (s + 8 < widen l b) = true := decide_eq_true c2
      clear c1 c2
      go_enter Try.func11, Try.ntmps11
      go_wp2_with (go_at_call 16; (with_reducible refine (widen_calls _ _ _).mono ?_); rintro e w' ⟨rfl, ⟨nd, rfl⟩⟩)
      go_ret
      exact ⟨rfl, by first | exact HS.out.drewN _ | exact (HS.out.drewN _).drewN _⟩
    · rw [decide_eq_true (by omega), show heard s l b = widen l b from if_neg (by omega)]
      have e2 : decide (s + 8 < widen l b) = false := decide_eq_false c2
      clear c1 c2
      go_enter Try.func11, Try.ntmps11
      go_wp2_with (go_at_call 16; (with_reducible refine (widen_calls _ _ _).mono ?_); rintro e w' ⟨rfl, ⟨nd, rfl⟩⟩)
      go_ret
      exact ⟨rfl, by first | exact (HS.out.drewN _).set1 _ | exact ((HS.out.drewN _).drewN _).set1 _⟩

end Go.Proofs.Ytcefanjnalbihaa.Own
