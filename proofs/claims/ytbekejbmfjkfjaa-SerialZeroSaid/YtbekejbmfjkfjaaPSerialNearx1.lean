-- PRINTED BY print.sh 35421559b90ae4d0a3588c463048766b98c2df88dd9212a6774a882060cdf62d: not written by this session
import Derived.Test.YtbekejbmfjkfjaaPSerialNearx0
namespace Go.Proofs.Ytbekejbmfjkfjaa.PSerialNear
open Go.RowKit Go.Proofs.YtbekejbmfjkfjaaW.PrintWords Go.Proofs.YtbekejbmfjkfjaaW.PrintLast Go.Proofs.YtbekejbmfjkfjaaW.PrintMore
attribute [local go_sem] max2_int min2_int max_two min_two max_three min_three max_four min_four   -- for this text's walks alone
set_option linter.unusedVariables false
set_option linter.unusedSimpArgs false

/-! ### serial_Less: function 13 -/
def serial_Less.f (a0 : Int) (a1 : Int) : Option (Bool) := if (IntKind.u16.wrap (a1 - a0)) = 0 then (some false) else (some (decide ((IntKind.u16.wrap (a1 - a0)) < 32768)))
set_option maxHeartbeats 8000000 in
set_option maxRecDepth 100000 in
theorem serial_Less.calls (a0 : Int) (a1 : Int) (r : Bool) (w : World) (h : serial_Less.f a0 a1 = some r) :
    Calls Try.prog 13 #[.int .u16 a0, .int .u16 a1] w fun e w' => e = .returned (.bool r) ∧ Drawn0 w w' := by
  have H : (if (IntKind.u16.wrap (a1 - a0)) = 0 then (some false) else (some (decide ((IntKind.u16.wrap (a1 - a0)) < 32768)))) = some r := h
  clear h
  by_cases c3 : (IntKind.u16.wrap (a1 - a0)) = 0
  · rw [if_pos c3] at H
    have c3b0 : ((IntKind.u16.wrap (a1 - a0)) == 0) = true := beq_iff_eq.mpr c3
    have c3b1 : ((IntKind.u16.wrap (a1 - a0)) != 0) = false := bne_eq_false_iff_eq.mpr c3
    clear c3
    obtain rfl := Option.some.inj H
    go_enter Try.func13, Try.ntmps13
    go_wp2
    go_ret
    exact ⟨by first | rfl | (simp; done) | (simp [*]; done), by repeat (first | exact Drawn0.refl _ | apply Drawn0.step)⟩
  · rw [if_neg c3] at H
    have c3b0 : ((IntKind.u16.wrap (a1 - a0)) == 0) = false := beq_eq_false_iff_ne.mpr c3
    have c3b1 : ((IntKind.u16.wrap (a1 - a0)) != 0) = true := bne_iff_ne.mpr c3
    obtain rfl := Option.some.inj H
    go_enter Try.func13, Try.ntmps13
    go_wp2
    go_ret
    exact ⟨by first | rfl | (simp; done) | (simp [*]; done), by repeat (first | exact Drawn0.refl _ | apply Drawn0.step)⟩

/-! ### serial_short_uint64: function 17 -/
def serial_short_uint64.f (a0 : Int) : Option (Int) := some (IntKind.u16.wrap (a0))
set_option maxHeartbeats 8000000 in
set_option maxRecDepth 100000 in
theorem serial_short_uint64.calls (a0 : Int) (r : Int) (w : World) (h : serial_short_uint64.f a0 = some r) :
    Calls Try.prog 17 #[.int .u64 a0] w fun e w' => e = .returned (.int .u16 r) ∧ Drawn0 w w' := by
  have H : (some (IntKind.u16.wrap (a0))) = some r := h
  clear h
  obtain rfl := Option.some.inj H
  go_enter Try.func17, Try.ntmps17
  go_wp2
  go_ret
  exact ⟨by first | rfl | (simp; done) | (simp [*]; done), by repeat (first | exact Drawn0.refl _ | apply Drawn0.step)⟩

/-! ### serial_Widen: function 14 -/
def serial_Widen.f (a0 : Int) (a1 : Int) : Option (Int) := (serial_short_uint64.f (IntKind.u64.wrap (a0 - 32768))).bind fun t101 => (some (IntKind.u64.wrap ((IntKind.u64.wrap (a0 - 32768)) + (IntKind.u64.wrap (IntKind.u16.wrap (a1 - t101))))))
set_option maxHeartbeats 8000000 in
set_option maxRecDepth 100000 in
theorem serial_Widen.calls (a0 : Int) (a1 : Int) (r : Int) (w : World) (h : serial_Widen.f a0 a1 = some r) :
    Calls Try.prog 14 #[.int .u64 a0, .int .u16 a1] w fun e w' => e = .returned (.int .u64 r) ∧ Drawn0 w w' := by
  have H : ((serial_short_uint64.f (IntKind.u64.wrap (a0 - 32768))).bind fun t101 => (some (IntKind.u64.wrap ((IntKind.u64.wrap (a0 - 32768)) + (IntKind.u64.wrap (IntKind.u16.wrap (a1 - t101))))))) = some r := h
  clear h
  replace H := Option.bind_eq_some_iff.mp H
  obtain ⟨t101, A30, H⟩ := H
  replace H : (some (IntKind.u64.wrap ((IntKind.u64.wrap (a0 - 32768)) + (IntKind.u64.wrap (IntKind.u16.wrap (a1 - t101)))))) = some r := H
  have A3 := Aside0.mk A30
  clear A30
  obtain rfl := Option.some.inj H
  go_enter Try.func14, Try.ntmps14
  go_wp2_with (first | ((with_reducible refine gate_callee (f := 17) rfl ?_); refine goesL_ (some 11) rfl rfl Try.func17 (by kernel_rfl) rfl #[.int .u64 (IntKind.u64.wrap (a0 - 32768))] rfl (by (try simp only [List.map_toArray, List.map_cons, List.map_nil]); first | done | rfl | (simp only [List.length_drop, List.length_take]; rfl)) ?_; (with_reducible refine (serial_short_uint64.calls (IntKind.u64.wrap (a0 - 32768)) t101 _ A3.out).mono ?_); rintro e w' ⟨rfl, ⟨nd, rfl⟩⟩; refine ⟨_, rfl, ?_⟩))
  go_ret
  exact ⟨by first | rfl | (simp; done) | (simp [*]; done), by repeat (first | exact Drawn0.refl _ | apply Drawn0.step)⟩

/-! ### shunterlaw01_known: function 12 -/
def shunterlaw01_known.f  : Option (Bool) := (serial_Less.f 65535 2).bind fun t102 => (if t102 = true then ((serial_Less.f 2 65535).bind fun t103 => (if t103 = true then (some false) else ((serial_Widen.f 65530 3).bind fun t104 => (if t104 = 65539 then ((serial_Widen.f 65539 65535).bind fun t105 => (if t105 = 65535 then ((serial_Widen.f 32768 0).bind fun t106 => (some (t106 == 0))) else (some false))) else (some false))))) else (some false))
set_option maxHeartbeats 8000000 in
set_option maxRecDepth 100000 in
theorem shunterlaw01_known.calls  (r : Bool) (w : World) (h : shunterlaw01_known.f  = some r) :
    Calls Try.prog 12 #[] w fun e w' => e = .returned (.bool r) ∧ Drawn0 w w' := by
  have H : ((serial_Less.f 65535 2).bind fun t102 => (if t102 = true then ((serial_Less.f 2 65535).bind fun t103 => (if t103 = true then (some false) else ((serial_Widen.f 65530 3).bind fun t104 => (if t104 = 65539 then ((serial_Widen.f 65539 65535).bind fun t105 => (if t105 = 65535 then ((serial_Widen.f 32768 0).bind fun t106 => (some (t106 == 0))) else (some false))) else (some false))))) else (some false))) = some r := h
  clear h
  replace H := Option.bind_eq_some_iff.mp H
  obtain ⟨t102, A10, H⟩ := H
  replace H : (if t102 = true then ((serial_Less.f 2 65535).bind fun t103 => (if t103 = true then (some false) else ((serial_Widen.f 65530 3).bind fun t104 => (if t104 = 65539 then ((serial_Widen.f 65539 65535).bind fun t105 => (if t105 = 65535 then ((serial_Widen.f 32768 0).bind fun t106 => (some (t106 == 0))) else (some false))) else (some false))))) else (some false)) = some r := H
  have A1 := Aside0.mk A10
  clear A10
  by_cases c2 : t102 = true
  · subst c2
    have H1 : ((serial_Less.f 2 65535).bind fun t103 => (if t103 = true then (some false) else ((serial_Widen.f 65530 3).bind fun t104 => (if t104 = 65539 then ((serial_Widen.f 65539 65535).bind fun t105 => (if t105 = 65535 then ((serial_Widen.f 32768 0).bind fun t106 => (some (t106 == 0))) else (some false))) else (some false))))) = some r := by rw [if_pos rfl] at H; exact H
    clear H
    have H := H1
    clear H1
    replace H := Option.bind_eq_some_iff.mp H
    obtain ⟨t103, A30, H⟩ := H
    replace H : (if t103 = true then (some false) else ((serial_Widen.f 65530 3).bind fun t104 => (if t104 = 65539 then ((serial_Widen.f 65539 65535).bind fun t105 => (if t105 = 65535 then ((serial_Widen.f 32768 0).bind fun t106 => (some (t106 == 0))) else (some false))) else (some false)))) = some r := H
    have A3 := Aside0.mk A30
    clear A30
    by_cases c4 : t103 = true
    · subst c4
      have H1 : (some false) = some r := by rw [if_pos rfl] at H; exact H
      clear H
      have H := H1
      clear H1
      obtain rfl := Option.some.inj H
      go_enter Try.func12, Try.ntmps12
      go_wp2_with (first | ((with_reducible refine gate_callee (f := 13) rfl ?_); refine goesL_ (some 1) rfl rfl Try.func13 (by kernel_rfl) rfl #[.int .u16 65535, .int .u16 2] rfl (by (try simp only [List.map_toArray, List.map_cons, List.map_nil]); first | done | rfl | (simp only [List.length_drop, List.length_take]; rfl)) ?_; (with_reducible refine (serial_Less.calls 65535 2 true _ A1.out).mono ?_); rintro e w' ⟨rfl, ⟨nd, rfl⟩⟩; refine ⟨_, rfl, ?_⟩) | (go_at_call 13; (with_reducible refine (serial_Less.calls 2 65535 true _ A3.out).mono ?_); rintro e w' ⟨rfl, ⟨nd, rfl⟩⟩))
      go_ret
      exact ⟨by first | rfl | (simp; done) | (simp [*]; done), by repeat (first | exact Drawn0.refl _ | apply Drawn0.step)⟩
    · replace c4 := Bool.eq_false_iff.mpr c4
      subst c4
      have H1 : ((serial_Widen.f 65530 3).bind fun t104 => (if t104 = 65539 then ((serial_Widen.f 65539 65535).bind fun t105 => (if t105 = 65535 then ((serial_Widen.f 32768 0).bind fun t106 => (some (t106 == 0))) else (some false))) else (some false))) = some r := by rw [if_neg (show ¬ (false = true) by decide)] at H; exact H
      clear H
      have H := H1
      clear H1
      replace H := Option.bind_eq_some_iff.mp H
      obtain ⟨t104, A50, H⟩ := H
      replace H : (if t104 = 65539 then ((serial_Widen.f 65539 65535).bind fun t105 => (if t105 = 65535 then ((serial_Widen.f 32768 0).bind fun t106 => (some (t106 == 0))) else (some false))) else (some false)) = some r := H
      have A5 := Aside0.mk A50
      clear A50
      by_cases c6 : t104 = 65539
      · rw [if_pos c6] at H
        have c6b0 : (t104 == 65539) = true := beq_iff_eq.mpr c6
        have c6b1 : (t104 != 65539) = false := bne_eq_false_iff_eq.mpr c6
        clear c6
        replace H := Option.bind_eq_some_iff.mp H
        obtain ⟨t105, A70, H⟩ := H
        replace H : (if t105 = 65535 then ((serial_Widen.f 32768 0).bind fun t106 => (some (t106 == 0))) else (some false)) = some r := H
        have A7 := Aside0.mk A70
        clear A70
        by_cases c8 : t105 = 65535
        · rw [if_pos c8] at H
          have c8b0 : (t105 == 65535) = true := beq_iff_eq.mpr c8
          have c8b1 : (t105 != 65535) = false := bne_eq_false_iff_eq.mpr c8
          clear c8
          replace H := Option.bind_eq_some_iff.mp H
          obtain ⟨t106, A90, H⟩ := H
          replace H : (some (t106 == 0)) = some r := H
          have A9 := Aside0.mk A90
          clear A90
          obtain rfl := Option.some.inj H
          go_enter Try.func12, Try.ntmps12
          go_wp2_with (first | ((with_reducible refine gate_callee (f := 13) rfl ?_); refine goesL_ (some 1) rfl rfl Try.func13 (by kernel_rfl) rfl #[.int .u16 65535, .int .u16 2] rfl (by (try simp only [List.map_toArray, List.map_cons, List.map_nil]); first | done | rfl | (simp only [List.length_drop, List.length_take]; rfl)) ?_; (with_reducible refine (serial_Less.calls 65535 2 true _ A1.out).mono ?_); rintro e w' ⟨rfl, ⟨nd, rfl⟩⟩; refine ⟨_, rfl, ?_⟩) | (go_at_call 13; (with_reducible refine (serial_Less.calls 2 65535 false _ A3.out).mono ?_); rintro e w' ⟨rfl, ⟨nd, rfl⟩⟩) | (go_at_call 14; (with_reducible refine (serial_Widen.calls 65530 3 t104 _ A5.out).mono ?_); rintro e w' ⟨rfl, ⟨nd, rfl⟩⟩) | (go_at_call 14; (with_reducible refine (serial_Widen.calls 65539 65535 t105 _ A7.out).mono ?_); rintro e w' ⟨rfl, ⟨nd, rfl⟩⟩) | (go_at_call 14; (with_reducible refine (serial_Widen.calls 32768 0 t106 _ A9.out).mono ?_); rintro e w' ⟨rfl, ⟨nd, rfl⟩⟩))
          go_ret
          exact ⟨by first | rfl | (simp; done) | (simp [*]; done), by repeat (first | exact Drawn0.refl _ | apply Drawn0.step)⟩
        · rw [if_neg c8] at H
          have c8b0 : (t105 == 65535) = false := beq_eq_false_iff_ne.mpr c8
          have c8b1 : (t105 != 65535) = true := bne_iff_ne.mpr c8
          obtain rfl := Option.some.inj H
          go_enter Try.func12, Try.ntmps12
          go_wp2_with (first | ((with_reducible refine gate_callee (f := 13) rfl ?_); refine goesL_ (some 1) rfl rfl Try.func13 (by kernel_rfl) rfl #[.int .u16 65535, .int .u16 2] rfl (by (try simp only [List.map_toArray, List.map_cons, List.map_nil]); first | done | rfl | (simp only [List.length_drop, List.length_take]; rfl)) ?_; (with_reducible refine (serial_Less.calls 65535 2 true _ A1.out).mono ?_); rintro e w' ⟨rfl, ⟨nd, rfl⟩⟩; refine ⟨_, rfl, ?_⟩) | (go_at_call 13; (with_reducible refine (serial_Less.calls 2 65535 false _ A3.out).mono ?_); rintro e w' ⟨rfl, ⟨nd, rfl⟩⟩) | (go_at_call 14; (with_reducible refine (serial_Widen.calls 65530 3 t104 _ A5.out).mono ?_); rintro e w' ⟨rfl, ⟨nd, rfl⟩⟩) | (go_at_call 14; (with_reducible refine (serial_Widen.calls 65539 65535 t105 _ A7.out).mono ?_); rintro e w' ⟨rfl, ⟨nd, rfl⟩⟩))
          go_ret
          exact ⟨by first | rfl | (simp; done) | (simp [*]; done), by repeat (first | exact Drawn0.refl _ | apply Drawn0.step)⟩
      · rw [if_neg c6] at H
        have c6b0 : (t104 == 65539) = false := beq_eq_false_iff_ne.mpr c6
        have c6b1 : (t104 != 65539) = true := bne_iff_ne.mpr c6
        obtain rfl := Option.some.inj H
        go_enter Try.func12, Try.ntmps12
        go_wp2_with (first | ((with_reducible refine gate_callee (f := 13) rfl ?_); refine goesL_ (some 1) rfl rfl Try.func13 (by kernel_rfl) rfl #[.int .u16 65535, .int .u16 2] rfl (by (try simp only [List.map_toArray, List.map_cons, List.map_nil]); first | done | rfl | (simp only [List.length_drop, List.length_take]; rfl)) ?_; (with_reducible refine (serial_Less.calls 65535 2 true _ A1.out).mono ?_); rintro e w' ⟨rfl, ⟨nd, rfl⟩⟩; refine ⟨_, rfl, ?_⟩) | (go_at_call 13; (with_reducible refine (serial_Less.calls 2 65535 false _ A3.out).mono ?_); rintro e w' ⟨rfl, ⟨nd, rfl⟩⟩) | (go_at_call 14; (with_reducible refine (serial_Widen.calls 65530 3 t104 _ A5.out).mono ?_); rintro e w' ⟨rfl, ⟨nd, rfl⟩⟩))
        go_ret
        exact ⟨by first | rfl | (simp; done) | (simp [*]; done), by repeat (first | exact Drawn0.refl _ | apply Drawn0.step)⟩
  · replace c2 := Bool.eq_false_iff.mpr c2
    subst c2
    have H1 : (some false) = some r := by rw [if_neg (show ¬ (false = true) by decide)] at H; exact H
    clear H
    have H := H1
    clear H1
    obtain rfl := Option.some.inj H
    go_enter Try.func12, Try.ntmps12
    go_wp2_with (first | ((with_reducible refine gate_callee (f := 13) rfl ?_); refine goesL_ (some 1) rfl rfl Try.func13 (by kernel_rfl) rfl #[.int .u16 65535, .int .u16 2] rfl (by (try simp only [List.map_toArray, List.map_cons, List.map_nil]); first | done | rfl | (simp only [List.length_drop, List.length_take]; rfl)) ?_; (with_reducible refine (serial_Less.calls 65535 2 false _ A1.out).mono ?_); rintro e w' ⟨rfl, ⟨nd, rfl⟩⟩; refine ⟨_, rfl, ?_⟩))
    go_ret
    exact ⟨by first | rfl | (simp; done) | (simp [*]; done), by repeat (first | exact Drawn0.refl _ | apply Drawn0.step)⟩

/-! ### shunterlaw01_SerialNear: function 7 -/
def shunterlaw01_SerialNear.f (a0 : Int) (a1 : Int) : Option (Bool) := (shunterlaw01_known.f).bind fun t107 => (if t107 = true then ((serial_Widen.f a0 (IntKind.u16.wrap (Int.tmod (IntKind.u64.wrap ((IntKind.u64.wrap (a0 + (IntKind.u64.wrap (a1)))) - 32768)) 65536))).bind fun t108 => (some (t108 == (IntKind.u64.wrap ((IntKind.u64.wrap (a0 + (IntKind.u64.wrap (a1)))) - 32768))))) else (some false))
set_option maxHeartbeats 8000000 in
set_option maxRecDepth 100000 in
theorem shunterlaw01_SerialNear.calls (a0 : Int) (a1 : Int) (r : Bool) (w : World) (h : shunterlaw01_SerialNear.f a0 a1 = some r) :
    Calls Try.prog 7 #[.int .u64 a0, .int .u16 a1] w fun e w' => e = .returned (.bool r) ∧ Drawn0 w w' := by
  have H : ((shunterlaw01_known.f).bind fun t107 => (if t107 = true then ((serial_Widen.f a0 (IntKind.u16.wrap (Int.tmod (IntKind.u64.wrap ((IntKind.u64.wrap (a0 + (IntKind.u64.wrap (a1)))) - 32768)) 65536))).bind fun t108 => (some (t108 == (IntKind.u64.wrap ((IntKind.u64.wrap (a0 + (IntKind.u64.wrap (a1)))) - 32768))))) else (some false))) = some r := h
  clear h
  replace H := Option.bind_eq_some_iff.mp H
  obtain ⟨t107, A30, H⟩ := H
  replace H : (if t107 = true then ((serial_Widen.f a0 (IntKind.u16.wrap (Int.tmod (IntKind.u64.wrap ((IntKind.u64.wrap (a0 + (IntKind.u64.wrap (a1)))) - 32768)) 65536))).bind fun t108 => (some (t108 == (IntKind.u64.wrap ((IntKind.u64.wrap (a0 + (IntKind.u64.wrap (a1)))) - 32768))))) else (some false)) = some r := H
  have A3 := Aside0.mk A30
  clear A30
  by_cases c4 : t107 = true
  · subst c4
    have H1 : ((serial_Widen.f a0 (IntKind.u16.wrap (Int.tmod (IntKind.u64.wrap ((IntKind.u64.wrap (a0 + (IntKind.u64.wrap (a1)))) - 32768)) 65536))).bind fun t108 => (some (t108 == (IntKind.u64.wrap ((IntKind.u64.wrap (a0 + (IntKind.u64.wrap (a1)))) - 32768))))) = some r := by rw [if_pos rfl] at H; exact H
    clear H
    have H := H1
    clear H1
    replace H := Option.bind_eq_some_iff.mp H
    obtain ⟨t108, A50, H⟩ := H
    replace H : (some (t108 == (IntKind.u64.wrap ((IntKind.u64.wrap (a0 + (IntKind.u64.wrap (a1)))) - 32768)))) = some r := H
    have A5 := Aside0.mk A50
    clear A50
    obtain rfl := Option.some.inj H
    go_enter Try.func7, Try.ntmps7
    go_wp2_with (first | ((with_reducible refine gate_callee (f := 12) rfl ?_); refine goesL_ (some 11) rfl rfl Try.func12 (by kernel_rfl) rfl #[] rfl (by (try simp only [List.map_toArray, List.map_cons, List.map_nil]); first | done | rfl | (simp only [List.length_drop, List.length_take]; rfl)) ?_; (with_reducible refine (shunterlaw01_known.calls  true _ A3.out).mono ?_); rintro e w' ⟨rfl, ⟨nd, rfl⟩⟩; refine ⟨_, rfl, ?_⟩) | (go_at_call 14; (with_reducible refine (serial_Widen.calls a0 (IntKind.u16.wrap (Int.tmod (IntKind.u64.wrap ((IntKind.u64.wrap (a0 + (IntKind.u64.wrap (a1)))) - 32768)) 65536)) t108 _ A5.out).mono ?_); rintro e w' ⟨rfl, ⟨nd, rfl⟩⟩))
    go_ret
    exact ⟨by first | rfl | (simp; done) | (simp [*]; done), by repeat (first | exact Drawn0.refl _ | apply Drawn0.step)⟩
  · replace c4 := Bool.eq_false_iff.mpr c4
    subst c4
    have H1 : (some false) = some r := by rw [if_neg (show ¬ (false = true) by decide)] at H; exact H
    clear H
    have H := H1
    clear H1
    obtain rfl := Option.some.inj H
    go_enter Try.func7, Try.ntmps7
    go_wp2_with (first | ((with_reducible refine gate_callee (f := 12) rfl ?_); refine goesL_ (some 11) rfl rfl Try.func12 (by kernel_rfl) rfl #[] rfl (by (try simp only [List.map_toArray, List.map_cons, List.map_nil]); first | done | rfl | (simp only [List.length_drop, List.length_take]; rfl)) ?_; (with_reducible refine (shunterlaw01_known.calls  false _ A3.out).mono ?_); rintro e w' ⟨rfl, ⟨nd, rfl⟩⟩; refine ⟨_, rfl, ?_⟩))
    go_ret
    exact ⟨by first | rfl | (simp; done) | (simp [*]; done), by repeat (first | exact Drawn0.refl _ | apply Drawn0.step)⟩

/-- THE ONE PURE STATEMENT of shunterlaw01_SerialNear: yours. -/
def shunterlaw01_SerialNear.Pure : Prop := ∀ (a0 : Int) (a1 : Int), (Lit.int .u64 a0).wf = true → (Lit.int .u16 a1).wf = true → shunterlaw01_SerialNear.f a0 a1 = some true
theorem shunterlaw01_SerialNear.walk (P : shunterlaw01_SerialNear.Pure) (a0 : Int) (a1 : Int) (w : World) (w0 : (Lit.int .u64 a0).wf = true) (w1 : (Lit.int .u16 a1).wf = true) :
    Calls Try.prog 7 #[.int .u64 a0, .int .u16 a1] w fun e w' => e = .returned (.bool true) ∧ Below w.heap.size w w' := by
  have h := P a0 a1 w0 w1
  refine (shunterlaw01_SerialNear.calls a0 a1 true w h).mono ?_
  rintro e w' ⟨rfl, hd⟩
  exact ⟨rfl, hd.below⟩

end Go.Proofs.Ytbekejbmfjkfjaa.PSerialNear
