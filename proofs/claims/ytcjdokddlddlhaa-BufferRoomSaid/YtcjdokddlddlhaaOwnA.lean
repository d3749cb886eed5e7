/- Contracts of a receiver's methods (layer 6), over printed ones, and of New. -/
import Derived.Test.YtcjdokddlddlhaaPBufferOncex1
namespace Go.Proofs.Ytcjdokddlddlhaa.Own
open Go.RowKit Go.Proofs.Ytcjdokddlddlhaa.PBufferOnce Go.Proofs.YtcjdokddlddlhaaW.PrintWords Go.Proofs.YtcjdokddlddlhaaW.PrintLast Go.Proofs.YtcjdokddlddlhaaW.PrintMore
set_option linter.unusedVariables false
set_option linter.unusedSimpArgs false

theorem w8 (n : Int) : IntKind.u8.wrap n = n % 256 := by simp [IntKind.wrap, IntKind.bits, IntKind.signed]
theorem w16 (n : Int) : IntKind.u16.wrap n = n % 65536 := by simp [IntKind.wrap, IntKind.bits, IntKind.signed]
theorem w64 (n : Int) : IntKind.u64.wrap n = n % 18446744073709551616 := by simp [IntKind.wrap, IntKind.bits, IntKind.signed]
theorem lo8 {a : Int} (h : (Lit.int .u8 a).wf = true) : 0 ≤ a ∧ a ≤ 255 := by
  simp [Lit.wf, IntKind.min, IntKind.max, IntKind.bits, IntKind.signed] at h; omega
theorem lo16 {a : Int} (h : (Lit.int .u16 a).wf = true) : 0 ≤ a ∧ a ≤ 65535 := by
  simp [Lit.wf, IntKind.min, IntKind.max, IntKind.bits, IntKind.signed] at h; omega
theorem lo32 {a : Int} (h : (Lit.int .u32 a).wf = true) : 0 ≤ a ∧ a ≤ 4294967295 := by
  simp [Lit.wf, IntKind.min, IntKind.max, IntKind.bits, IntKind.signed] at h; omega
theorem lo64 {a : Int} (h : (Lit.int .u64 a).wf = true) : 0 ≤ a ∧ a ≤ 18446744073709551615 := by
  simp [Lit.wf, IntKind.min, IntKind.max, IntKind.bits, IntKind.signed] at h; omega
theorem ret_beq {a b : Int} (h : a = b) : Ending.returned (.bool (a == b)) = Ending.returned (.bool true) := by subst h; simp

/-- The long number of a short one that is nearest to another. -/
def widen (a b : Int) : Int := ((a - 32768) % 18446744073709551616 + (b - (a - 32768)) % 65536) % 18446744073709551616
theorem widen_range (a b : Int) : 0 ≤ widen a b ∧ widen a b ≤ 18446744073709551615 := by unfold widen; omega
theorem widen_near (l x b : Int) (h0 : 0 ≤ x) (h1 : x ≤ 18446744073709551615) (h2 : l - 32768 ≤ x) (h3 : x < l + 32768) (hb : b = x % 65536) : widen l b = x := by
  unfold widen; omega
theorem widen_f (a b : Int) : serial_Widen.f a b = some (widen a b) := by
  unfold serial_Widen.f serial_short_uint64.f
  simp only [w16, w64, Option.bind_some]
  congr 1
  unfold widen
  omega

/-- A receiver that expects x, holds h, of room r lies at block g, which the call laid; what lay in w0 is as it was. -/
def St (w0 w : World) (g : Nat) (x h r : Int) : Prop := IsS46 w0 w g x h r ∧ Below w0.heap.size w0 w
theorem St.below {w0 w w1 : World} {g : Nat} {x h r : Int} (s : St w0 w g x h r) (hb : Below w.heap.size w w1) : St w0 w1 g x h r := ⟨s.1.below hb, below_then s.2 s.2.size hb⟩
theorem St.drew {w0 w : World} {g : Nat} {x h r : Int} (s : St w0 w g x h r) : St w0 w.drew g x h r := ⟨s.1.drew, s.2.drew⟩
theorem St.drewN {w0 w : World} {g : Nat} {x h r : Int} (s : St w0 w g x h r) (m : Nat) : St w0 (w.drewN m) g x h r := ⟨s.1.drewN m, pw_below_drewN s.2 m⟩

theorem limit_calls (g : Nat) (x h r : Int) (w0 w : World) (s : St w0 w g x h r) (x0 : 0 ≤ x) (x1 : x ≤ 9000000000000000000) (h0 : 0 ≤ h) (h1 : h ≤ r) (h2 : r ≤ 8) :
    Calls Try.prog 10 #[.pointer (some ⟨g, 0, none⟩)] w fun e w' => e = .returned (.int .u64 (x + (r - h))) ∧ St w0 w' g x h r ∧ KeepBut w w' g none :=
  (buffer_Receiver_Limit.calls g x h r (x + (r - h)) x h r w0 w s.1 s.2 (by
    unfold buffer_Receiver_Limit.f
    rw [w64, w64]
    unfold wrap64
    rw [show (x + ((r - h + 9223372036854775808) % 18446744073709551616 - 9223372036854775808) % 18446744073709551616) % 18446744073709551616 = x + (r - h) by omega])).mono fun e w' ⟨he, hi, hb, hk⟩ => ⟨he, ⟨hi, hb⟩, hk⟩

theorem expects_calls (g : Nat) (x h r : Int) (w0 w : World) (s : St w0 w g x h r) :
    Calls Try.prog 13 #[.pointer (some ⟨g, 0, none⟩)] w fun e w' => e = .returned (.int .u64 x) ∧ St w0 w' g x h r ∧ KeepBut w w' g none :=
  (buffer_Receiver_Expects.calls g x h r _ _ _ _ w0 w s.1 s.2 rfl).mono fun e w' ⟨he, hi, hb, hk⟩ => ⟨he, ⟨hi, hb⟩, hk⟩

theorem held_calls (g : Nat) (x h r : Int) (w0 w : World) (s : St w0 w g x h r) :
    Calls Try.prog 15 #[.pointer (some ⟨g, 0, none⟩)] w fun e w' => e = .returned (.int .i64 h) ∧ St w0 w' g x h r ∧ KeepBut w w' g none :=
  (buffer_Receiver_Held.calls g x h r _ _ _ _ w0 w s.1 s.2 rfl).mono fun e w' ⟨he, hi, hb, hk⟩ => ⟨he, ⟨hi, hb⟩, hk⟩

theorem free_no (g : Nat) (x r : Int) (w0 w : World) (s : St w0 w g x 0 r) :
    Calls Try.prog 16 #[.pointer (some ⟨g, 0, none⟩)] w fun e w' => e = .returned (.bool false) ∧ St w0 w' g x 0 r ∧ KeepBut w w' g none :=
  (buffer_Receiver_Free.calls g x 0 r _ _ _ _ w0 w s.1 s.2 rfl).mono fun e w' ⟨he, hi, hb, hk⟩ => ⟨he, ⟨hi, hb⟩, hk⟩

theorem free_yes (g : Nat) (x h r : Int) (w0 w : World) (s : St w0 w g x h r) (h0 : 0 < h) (h1 : h ≤ 8) :
    Calls Try.prog 16 #[.pointer (some ⟨g, 0, none⟩)] w fun e w' => e = .returned (.bool true) ∧ St w0 w' g x (h - 1) r ∧ KeepBut w w' g none :=
  (buffer_Receiver_Free.calls g x h r true x (h - 1) r w0 w s.1 s.2 (by unfold buffer_Receiver_Free.f wrap64; rw [if_neg (by omega), show (h - 1 + 9223372036854775808) % 18446744073709551616 - 9223372036854775808 = h - 1 by omega])).mono fun e w' ⟨he, hi, hb, hk⟩ => ⟨he, ⟨hi, hb⟩, hk⟩

theorem ahead_f (x h r b : Int) (x0 : 0 ≤ x) : buffer_Receiver_ahead.f x h r b = some (widen x b, (widen x b - x) % 18446744073709551616, decide (x ≤ widen x b), x, h, r) := by
  unfold buffer_Receiver_ahead.f
  rw [widen_f]
  simp only [Option.bind_some, w64, ge_iff_le]

theorem room_f (h r : Int) (h0 : 0 ≤ h) (h1 : h ≤ r) (h2 : r ≤ 8) : IntKind.u64.wrap (wrap64 (r - h)) = r - h := by
  rw [w64]; unfold wrap64; omega

theorem come_stale (g : Nat) (x h r b : Int) (w0 w : World) (s : St w0 w g x h r) (x0 : 0 ≤ x) (hs : widen x b < x) :
    Calls Try.prog 14 #[.pointer (some ⟨g, 0, none⟩), .int .u16 b] w fun e w' => e = .returned (.int .u16 60) ∧ St w0 w' g x h r ∧ KeepBut w w' g none :=
  (buffer_Receiver_Come.calls g x h r b 60 x h r w0 w s.1 s.2 (by
    unfold buffer_Receiver_Come.f
    rw [ahead_f x h r b x0]
    simp only [Option.bind_some]
    rw [if_neg (by simp; omega)])).mono fun e w' ⟨he, hi, hb, hk⟩ => ⟨he, ⟨hi, hb⟩, hk⟩

theorem come_over (g : Nat) (x h r b : Int) (w0 w : World) (s : St w0 w g x h r) (x0 : 0 ≤ x) (h0 : 0 ≤ h) (h1 : h ≤ r) (h2 : r ≤ 8) (hs : x + (r - h) ≤ widen x b) :
    Calls Try.prog 14 #[.pointer (some ⟨g, 0, none⟩), .int .u16 b] w fun e w' => e = .returned (.int .u16 61) ∧ St w0 w' g x h r ∧ KeepBut w w' g none :=
  (buffer_Receiver_Come.calls g x h r b 61 x h r w0 w s.1 s.2 (by
    have hr := widen_range x b
    unfold buffer_Receiver_Come.f
    rw [ahead_f x h r b x0]
    simp only [Option.bind_some]
    rw [if_pos (by simp; omega), room_f h r h0 h1 h2, if_pos (by omega)])).mono fun e w' ⟨he, hi, hb, hk⟩ => ⟨he, ⟨hi, hb⟩, hk⟩

theorem come_ok (X : Int) (g : Nat) (x h r b : Int) (w0 w : World) (s : St w0 w g x h r) (x0 : 0 ≤ x) (x1 : x ≤ 9000000000000000000) (h0 : 0 ≤ h) (h1 : h ≤ r) (h2 : r ≤ 8) (hX : widen x b = X) (hs : x ≤ X) (ht : X < x + (r - h)) :
    Calls Try.prog 14 #[.pointer (some ⟨g, 0, none⟩), .int .u16 b] w fun e w' => e = .returned (.int .u16 0) ∧ St w0 w' g (X + 1) (h + 1) r ∧ KeepBut w w' g none :=
  (buffer_Receiver_Come.calls g x h r b 0 (X + 1) (h + 1) r w0 w s.1 s.2 (by
    subst hX
    unfold buffer_Receiver_Come.f
    rw [ahead_f x h r b x0]
    simp only [Option.bind_some]
    rw [if_pos (by simp; omega), room_f h r h0 h1 h2, if_neg (by omega), w64]
    unfold wrap64
    rw [show (widen x b + 1) % 18446744073709551616 = widen x b + 1 by omega, show (h + 1 + 9223372036854775808) % 18446744073709551616 - 9223372036854775808 = h + 1 by omega])).mono fun e w' ⟨he, hi, hb, hk⟩ => ⟨he, ⟨hi, hb⟩, hk⟩

theorem hear_no (g : Nat) (x h r b : Int) (w0 w : World) (s : St w0 w g x h r) (x0 : 0 ≤ x) (h0 : 0 ≤ h) (h1 : h ≤ r) (h2 : r ≤ 8) (hs : widen x b ≤ x ∨ x + (r - h) < widen x b) :
    Calls Try.prog 11 #[.pointer (some ⟨g, 0, none⟩), .int .u16 b] w fun e w' => e = .returned (.bool false) ∧ St w0 w' g x h r ∧ KeepBut w w' g none :=
  (buffer_Receiver_Hear.calls g x h r b false x h r w0 w s.1 s.2 (by
    have hr := widen_range x b
    unfold buffer_Receiver_Hear.f
    rw [ahead_f x h r b x0]
    simp only [Option.bind_some]
    by_cases c1 : x ≤ widen x b
    · rw [if_pos (by simp; omega)]
      by_cases c2 : (widen x b - x) % 18446744073709551616 = 0
      · rw [if_pos c2]
      · rw [if_neg c2, room_f h r h0 h1 h2, if_pos (by omega)]
    · rw [if_neg (by simp; omega)])).mono fun e w' ⟨he, hi, hb, hk⟩ => ⟨he, ⟨hi, hb⟩, hk⟩

theorem hear_yes (X : Int) (g : Nat) (x h r b : Int) (w0 w : World) (s : St w0 w g x h r) (x0 : 0 ≤ x) (h0 : 0 ≤ h) (h1 : h ≤ r) (h2 : r ≤ 8) (hX : widen x b = X) (hs : x < X) (ht : X ≤ x + (r - h)) :
    Calls Try.prog 11 #[.pointer (some ⟨g, 0, none⟩), .int .u16 b] w fun e w' => e = .returned (.bool true) ∧ St w0 w' g X h r ∧ KeepBut w w' g none :=
  (buffer_Receiver_Hear.calls g x h r b true X h r w0 w s.1 s.2 (by
    have hr := widen_range x b
    subst hX
    unfold buffer_Receiver_Hear.f
    rw [ahead_f x h r b x0]
    simp only [Option.bind_some]
    rw [if_pos (by simp; omega), if_neg (by omega), room_f h r h0 h1 h2, if_neg (by omega)])).mono fun e w' ⟨he, hi, hb, hk⟩ => ⟨he, ⟨hi, hb⟩, hk⟩

set_option maxHeartbeats 2000000 in
theorem new_ok (n r : Int) (w : World) (h0 : 0 ≤ n) (h1 : n < 4611686018427387904) (h2 : 1 ≤ r) (h3 : r ≤ 8) :
    Calls Try.prog 9 #[.int .u64 n, .int .i64 r] w fun e w' => e = .returned (.pointer (some ⟨w.heap.size, 0, none⟩)) ∧ w' = w.alloc (.cells #[.int .u64 n, .int .i64 0, .int .i64 r] 46) := by
  have e1 : decide (4611686018427387904 ≤ n) = false := by simp; omega
  have e2 : decide (r < 1) = false := by simp; omega
  have e3 : decide (8 < r) = false := by simp; omega
  go_enter Try.func9, Try.ntmps9
  go_wp2
  go_ret
  exact ⟨rfl, rfl⟩

theorem new_St (n r : Int) (w0 w : World) (hB : Below w0.heap.size w0 w) (h0 : 0 ≤ n) (h1 : n < 4611686018427387904) (h2 : 1 ≤ r) (h3 : r ≤ 8) :
    Calls Try.prog 9 #[.int .u64 n, .int .i64 r] w fun e w' => ∃ g, e = .returned (.pointer (some ⟨g, 0, none⟩)) ∧ St w0 w' g n 0 r ∧ w.heap.size ≤ g ∧ Below w.heap.size w w' :=
  (new_ok n r w h0 h1 h2 h3).mono fun e w' ⟨he, hw⟩ => ⟨_, he, by subst hw; exact ⟨⟨⟨blk_new _ _, hB.size⟩, below_alloc hB _⟩, Nat.le_refl _, below_alloc (Below.refl _ _) _⟩⟩

set_option maxHeartbeats 2000000 in
theorem new_none (n r : Int) (w : World) (h0 : 0 ≤ n) (h : 4611686018427387904 ≤ n ∨ r < 1 ∨ 8 < r) :
    Calls Try.prog 9 #[.int .u64 n, .int .i64 r] w fun e w' => e = .returned (.pointer none) ∧ w' = w := by
  by_cases c1 : 4611686018427387904 ≤ n
  · have e1 : decide (4611686018427387904 ≤ n) = true := by simp; omega
    go_enter Try.func9, Try.ntmps9
    go_wp2
    go_ret
    exact ⟨rfl, rfl⟩
  · have e1 : decide (4611686018427387904 ≤ n) = false := by simp; omega
    by_cases c2 : r < 1
    · have e2 : decide (r < 1) = true := by simp; omega
      go_enter Try.func9, Try.ntmps9
      go_wp2
      go_ret
      exact ⟨rfl, rfl⟩
    · have e2 : decide (r < 1) = false := by simp; omega
      have e3 : decide (8 < r) = true := by simp; omega
      go_enter Try.func9, Try.ntmps9
      go_wp2
      go_ret
      exact ⟨rfl, rfl⟩
end Go.Proofs.Ytcjdokddlddlhaa.Own
