/- The walk of SerialZero, by hand over printed contracts of Widen and known: for any 64 bit number and any byte the function returns true. -/
import Derived.Test.YtbekejbmfjkfjaaPSerialNearx1
namespace Go.Proofs.Ytbekejbmfjkfjaa.OwnSerialZero
open Go.RowKit Go.Proofs.Ytbekejbmfjkfjaa.PSerialNear Go.Proofs.YtbekejbmfjkfjaaW.PrintWords Go.Proofs.YtbekejbmfjkfjaaW.PrintLast Go.Proofs.YtbekejbmfjkfjaaW.PrintMore

theorem w16 (n : Int) : IntKind.u16.wrap n = n % 65536 := by simp [IntKind.wrap, IntKind.bits, IntKind.signed]
theorem w64 (n : Int) : IntKind.u64.wrap n = n % 18446744073709551616 := by simp [IntKind.wrap, IntKind.bits, IntKind.signed]
theorem lo64 {a : Int} (h : (Lit.int .u64 a).wf = true) : 0 ≤ a ∧ a ≤ 18446744073709551615 := by
  simp [Lit.wf, IntKind.min, IntKind.max, IntKind.bits, IntKind.signed] at h; omega
theorem lo8 {a : Int} (h : (Lit.int .u8 a).wf = true) : 0 ≤ a ∧ a ≤ 255 := by
  simp [Lit.wf, IntKind.min, IntKind.max, IntKind.bits, IntKind.signed] at h; omega
theorem less (a b : Int) : serial_Less.f a b = some (decide ((b - a) % 65536 ≠ 0 ∧ (b - a) % 65536 < 32768)) := by
  unfold serial_Less.f
  simp only [w16]
  by_cases h : (b - a) % 65536 = 0 <;> simp [h]
theorem widen (a b : Int) : serial_Widen.f a b = some (((a - 32768) % 18446744073709551616 + (b - (a - 32768)) % 65536) % 18446744073709551616) := by
  unfold serial_Widen.f serial_short_uint64.f
  simp only [w16, w64, Option.bind_some]
  congr 1
  omega
theorem known : shunterlaw01_known.f = some true := by
  unfold shunterlaw01_known.f
  simp [less, widen]

set_option maxHeartbeats 2000000 in
set_option maxRecDepth 100000 in
theorem zero_calls (n d : Int) (w : World)
    (h1 : serial_Widen.f (Int.tmod n 1152921504606846976) (IntKind.u16.wrap (Int.tmod n 65536)) = some (Int.tmod n 1152921504606846976))
    (h2 : serial_Widen.f (IntKind.u64.wrap (Int.tmod n 1152921504606846976 + IntKind.u64.wrap d)) (IntKind.u16.wrap (Int.tmod n 65536)) = some (Int.tmod n 1152921504606846976))
    (h3 : serial_Widen.f (Int.tmod n 1152921504606846976) (IntKind.u16.wrap (Int.tmod (IntKind.u64.wrap (Int.tmod n 1152921504606846976 + IntKind.u64.wrap d)) 65536)) = some (IntKind.u64.wrap (Int.tmod n 1152921504606846976 + IntKind.u64.wrap d))) :
    Calls Try.prog 4 #[.int .u64 n, .int .u8 d] w fun e w' => e = .returned (.bool true) ∧ Drawn0 w w' := by
  have K := Aside0.mk known
  have A1 := Aside0.mk h1
  have A2 := Aside0.mk h2
  have A3 := Aside0.mk h3
  clear h1 h2 h3
  go_enter Try.func4, Try.ntmps4
  go_wp2_with (first | ((with_reducible refine gate_callee (f := 12) rfl ?_); refine goesL_ (some 13) rfl rfl Try.func12 (by kernel_rfl) rfl #[] rfl (by (try simp only [List.map_toArray, List.map_nil]); first | done | rfl) ?_; (with_reducible refine (shunterlaw01_known.calls true _ K.out).mono ?_); rintro e w' ⟨rfl, ⟨nd, rfl⟩⟩; refine ⟨_, rfl, ?_⟩) | (go_at_call 14; (with_reducible refine (serial_Widen.calls _ _ _ _ A1.out).mono ?_); rintro e w' ⟨rfl, ⟨nd, rfl⟩⟩) | (go_at_call 14; (with_reducible refine (serial_Widen.calls _ _ _ _ A2.out).mono ?_); rintro e w' ⟨rfl, ⟨nd, rfl⟩⟩) | (go_at_call 14; (with_reducible refine (serial_Widen.calls _ _ _ _ A3.out).mono ?_); rintro e w' ⟨rfl, ⟨nd, rfl⟩⟩))
  go_ret
  exact ⟨by first | rfl | (simp; done), by repeat (first | exact Drawn0.refl _ | apply Drawn0.step)⟩

theorem tm {a b : Int} (h : 0 ≤ a) : Int.tmod a b = a % b := Int.tmod_eq_emod_of_nonneg h

theorem zero_walk (n d : Int) (w : World) (w0 : (Lit.int .u64 n).wf = true) (w1 : (Lit.int .u8 d).wf = true) :
    Calls Try.prog 4 #[.int .u64 n, .int .u8 d] w fun e w' => e = .returned (.bool true) ∧ Below w.heap.size w w' := by
  have b0 := lo64 w0
  have b1 := lo8 w1
  refine (zero_calls n d w ?_ ?_ ?_).mono ?_
  · rw [widen, w16, tm b0.1, tm b0.1]; congr 1; omega
  · rw [widen, w16, w64, w64, tm b0.1, tm b0.1]; congr 1; omega
  · rw [widen, w16, w64, w64, tm b0.1, tm (by omega)]; congr 1; omega
  · rintro e w' ⟨rfl, hd⟩
    exact ⟨rfl, hd.below⟩

end Go.Proofs.Ytbekejbmfjkfjaa.OwnSerialZero
