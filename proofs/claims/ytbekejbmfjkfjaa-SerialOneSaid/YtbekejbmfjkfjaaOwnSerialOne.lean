/- The walk of SerialOne, by hand over printed contracts of Less and known: for any two 16 bit numbers the function returns true. -/
import Derived.Test.YtbekejbmfjkfjaaPSerialLessx1
namespace Go.Proofs.Ytbekejbmfjkfjaa.OwnSerialOne
open Go.RowKit Go.Proofs.Ytbekejbmfjkfjaa.PSerialLess Go.Proofs.YtbekejbmfjkfjaaW.PrintWords Go.Proofs.YtbekejbmfjkfjaaW.PrintLast Go.Proofs.YtbekejbmfjkfjaaW.PrintMore

theorem w16 (n : Int) : IntKind.u16.wrap n = n % 65536 := by simp [IntKind.wrap, IntKind.bits, IntKind.signed]
theorem w64 (n : Int) : IntKind.u64.wrap n = n % 18446744073709551616 := by simp [IntKind.wrap, IntKind.bits, IntKind.signed]
theorem lo16 {a : Int} (h : (Lit.int .u16 a).wf = true) : 0 ≤ a ∧ a ≤ 65535 := by
  simp [Lit.wf, IntKind.min, IntKind.max, IntKind.bits, IntKind.signed] at h; omega
theorem less (a b : Int) : serial_Less.f a b = some (decide ((b - a) % 65536 ≠ 0 ∧ (b - a) % 65536 < 32768)) := by
  unfold serial_Less.f
  simp only [w16]
  by_cases h : (b - a) % 65536 = 0 <;> simp [h]
theorem widen (a b : Int) : serial_Widen.f a b = some (((a - 32768) % 18446744073709551616 + (b - (a - 32768)) % 65536) % 18446744073709551616) := by
  unfold serial_Widen.f serial_short_uint64.f
  simp only [w16, w64, Option.bind_some]
  congr 1
  omega
theorem known : shunterlaw01_known.f = some true := by
  unfold shunterlaw01_known.f
  simp [less, widen]

set_option maxHeartbeats 2000000 in
set_option maxRecDepth 100000 in
theorem one_same (a : Int) (w : World) : Calls Try.prog 8 #[.int .u16 a, .int .u16 a] w fun e w' => e = .returned (.bool true) ∧ Drawn0 w w' := by
  have K := Aside0.mk known
  have L : Aside0 (serial_Less.f a a = some false) := Aside0.mk (by rw [less]; simp)
  go_enter Try.func8, Try.ntmps8
  go_wp2_with (first | ((with_reducible refine gate_callee (f := 12) rfl ?_); refine goesL_ (some 15) rfl rfl Try.func12 (by kernel_rfl) rfl #[] rfl (by (try simp only [List.map_toArray, List.map_nil]); first | done | rfl) ?_; (with_reducible refine (shunterlaw01_known.calls true _ K.out).mono ?_); rintro e w' ⟨rfl, ⟨nd, rfl⟩⟩; refine ⟨_, rfl, ?_⟩) | (go_at_call 13; (with_reducible refine (serial_Less.calls a a false _ L.out).mono ?_); rintro e w' ⟨rfl, ⟨nd, rfl⟩⟩))
  go_ret
  exact ⟨by first | rfl | (simp; done), by repeat (first | exact Drawn0.refl _ | apply Drawn0.step)⟩

set_option maxHeartbeats 2000000 in
set_option maxRecDepth 100000 in
theorem one_unlike (a b : Int) (x y z : Bool) (w : World) (hab : ¬ a = b) (hz : (IntKind.u16.wrap (a - b) != 32768) = z) (hx : serial_Less.f a b = some x) (hy : serial_Less.f b a = some y) (hxy : (!x == y) = z) :
    Calls Try.prog 8 #[.int .u16 a, .int .u16 b] w fun e w' => e = .returned (.bool true) ∧ Drawn0 w w' := by
  have K := Aside0.mk known
  have L : Aside0 (serial_Less.f a a = some false) := Aside0.mk (by rw [less]; simp)
  have X := Aside0.mk hx
  have Y := Aside0.mk hy
  clear hx hy
  have e1 : (a != b) = true := bne_iff_ne.mpr hab
  have e2 : (a == b) = false := beq_eq_false_iff_ne.mpr hab
  cases x <;> cases y <;> cases z <;> first | (exact absurd hxy (by decide)) | skip
  all_goals
    clear hxy
    try have e3 : (IntKind.u16.wrap (a - b) == 32768) = true := by simpa using hz
    try have e3 : (IntKind.u16.wrap (a - b) == 32768) = false := by simpa using hz
    go_enter Try.func8, Try.ntmps8
    go_wp2_with (first | ((with_reducible refine gate_callee (f := 12) rfl ?_); refine goesL_ (some 15) rfl rfl Try.func12 (by kernel_rfl) rfl #[] rfl (by (try simp only [List.map_toArray, List.map_nil]); first | done | rfl) ?_; (with_reducible refine (shunterlaw01_known.calls true _ K.out).mono ?_); rintro e w' ⟨rfl, ⟨nd, rfl⟩⟩; refine ⟨_, rfl, ?_⟩) | (go_at_call 13; (with_reducible refine (serial_Less.calls a a false _ L.out).mono ?_); rintro e w' ⟨rfl, ⟨nd, rfl⟩⟩) | (go_at_call 13; (with_reducible refine (serial_Less.calls a b _ _ X.out).mono ?_); rintro e w' ⟨rfl, ⟨nd, rfl⟩⟩) | (go_at_call 13; (with_reducible refine (serial_Less.calls b a _ _ Y.out).mono ?_); rintro e w' ⟨rfl, ⟨nd, rfl⟩⟩))
    go_ret
    exact ⟨by first | rfl | (simp; done), by repeat (first | exact Drawn0.refl _ | apply Drawn0.step)⟩

theorem one_walk (a b : Int) (w : World) (w0 : (Lit.int .u16 a).wf = true) (w1 : (Lit.int .u16 b).wf = true) :
    Calls Try.prog 8 #[.int .u16 a, .int .u16 b] w fun e w' => e = .returned (.bool true) ∧ Below w.heap.size w w' := by
  have b0 := lo16 w0
  have b1 := lo16 w1
  have h : Calls Try.prog 8 #[.int .u16 a, .int .u16 b] w fun e w' => e = .returned (.bool true) ∧ Drawn0 w w' := by
    by_cases hab : a = b
    · subst hab; exact one_same a w
    · by_cases hd : IntKind.u16.wrap (a - b) = 32768
      · have hd' := hd
        rw [w16] at hd'
        exact one_unlike a b false false false w hab (bne_eq_false_iff_eq.mpr hd) (by rw [less, decide_eq_false (by omega)]) (by rw [less, decide_eq_false (by omega)]) rfl
      · have hd' := hd
        rw [w16] at hd'
        by_cases hx : (b - a) % 65536 < 32768
        · exact one_unlike a b true false true w hab (bne_iff_ne.mpr hd) (by rw [less, decide_eq_true (by omega)]) (by rw [less, decide_eq_false (by omega)]) rfl
        · exact one_unlike a b false true true w hab (bne_iff_ne.mpr hd) (by rw [less, decide_eq_false (by omega)]) (by rw [less, decide_eq_true (by omega)]) rfl
  refine h.mono ?_
  rintro e w' ⟨rfl, hd⟩
  exact ⟨rfl, hd.below⟩

end Go.Proofs.Ytbekejbmfjkfjaa.OwnSerialOne
