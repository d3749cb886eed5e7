/- Of two 16 bit numbers half the way apart none is ahead; one more and one fewer turn it. -/
import Derived.Test.YtbekejbmfjkfjaaPSerialHalfx1
namespace Go.Proofs.Ytbekejbmfjkfjaa.Pure
open Go.RowKit Go.Proofs.Ytbekejbmfjkfjaa.PSerialHalf Go.Proofs.YtbekejbmfjkfjaaW.PrintWords Go.Proofs.YtbekejbmfjkfjaaW.PrintLast
namespace SerialHalfAid

theorem w16 (n : Int) : IntKind.u16.wrap n = n % 65536 := by simp [IntKind.wrap, IntKind.bits, IntKind.signed]
theorem w64 (n : Int) : IntKind.u64.wrap n = n % 18446744073709551616 := by simp [IntKind.wrap, IntKind.bits, IntKind.signed]
theorem lo16 {a : Int} (h : (Lit.int .u16 a).wf = true) : 0 ≤ a ∧ a ≤ 65535 := by
  simp [Lit.wf, IntKind.min, IntKind.max, IntKind.bits, IntKind.signed] at h; omega
theorem lo8 {a : Int} (h : (Lit.int .u8 a).wf = true) : 0 ≤ a ∧ a ≤ 255 := by
  simp [Lit.wf, IntKind.min, IntKind.max, IntKind.bits, IntKind.signed] at h; omega
theorem lo64 {a : Int} (h : (Lit.int .u64 a).wf = true) : 0 ≤ a ∧ a ≤ 18446744073709551615 := by
  simp [Lit.wf, IntKind.min, IntKind.max, IntKind.bits, IntKind.signed] at h; omega
theorem tm {a b : Int} (h : 0 ≤ a) : Int.tmod a b = a % b := Int.tmod_eq_emod_of_nonneg h

theorem less (a b : Int) : serial_Less.f a b = some (decide ((b - a) % 65536 ≠ 0 ∧ (b - a) % 65536 < 32768)) := by
  unfold serial_Less.f
  simp only [w16]
  by_cases h : (b - a) % 65536 = 0 <;> simp [h]

theorem widen (a b : Int) : serial_Widen.f a b = some (((a - 32768) % 18446744073709551616 + (b - (a - 32768)) % 65536) % 18446744073709551616) := by
  unfold serial_Widen.f serial_short_uint64.f
  simp only [w16, w64, Option.bind_some]
  congr 1
  omega

theorem known : shunterlaw01_known.f = some true := by
  unfold shunterlaw01_known.f
  simp [less, widen]

end SerialHalfAid
open SerialHalfAid

theorem SerialHalf : shunterlaw01_SerialHalf.Pure := by
  intro a h0
  have b0 := lo16 h0
  unfold shunterlaw01_SerialHalf.f
  rw [known]
  simp only [Option.bind_some, if_true, less, w16]
  rw [decide_eq_false (by omega), decide_eq_false (by omega), decide_eq_true (by omega), decide_eq_false (by omega), decide_eq_true (by omega)]
  rfl

end Go.Proofs.Ytbekejbmfjkfjaa.Pure
