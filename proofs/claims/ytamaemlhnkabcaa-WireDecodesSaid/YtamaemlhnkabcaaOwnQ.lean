/- The references' Sum, Sound, Encode (layer 3). -/
import Derived.Test.YtamaemlhnkabcaaOwnL
namespace Go.Proofs.Ytamaemlhnkabcaa.Own
open Go.RowKit Go.Proofs.Ytamaemlhnkabcaa.Crc Go.Proofs.Ytamaemlhnkabcaa.PWireRefuses Go.Proofs.YtamaemlhnkabcaaW.PrintWords Go.Proofs.YtamaemlhnkabcaaW.PrintLast Go.Proofs.YtamaemlhnkabcaaW.PrintMore
set_option linter.unusedVariables false
set_option linter.unusedSimpArgs false

theorem xor32 {r c : Nat} (h : r < 65536) (hc : c < 256) : bits .xor .u32 (r : Int) ((c : Int) * 256) = ((shn 0 (r ^^^ c * 256) : Nat) : Int) := by
  have := u32_xor_nat r (c * 256) (by omega) (by omega)
  rw [Int.natCast_mul] at this
  exact this
theorem sh32_big {r : Nat} (h : r < 65536) (c : 32768 ≤ r) : bits .xor .u32 ((r : Int) * 2 - 65536) 4129 = ((sh r : Nat) : Int) := by
  rw [show (r : Int) * 2 - 65536 = ((r * 2 % 65536 : Nat) : Int) by omega, show (4129 : Int) = ((4129 : Nat) : Int) from rfl, u32_xor_nat _ _ (by omega) (by omega)]
  unfold sh
  rw [if_pos c]
theorem sh32_small {r : Nat} (c : ¬ 32768 ≤ r) : (r : Int) * 2 = ((sh r : Nat) : Int) := by
  unfold sh
  rw [if_neg c]
  omega

set_option maxHeartbeats 4000000 in
set_option maxRecDepth 100000 in
/-- The reference's Sum of any bytes that are read is their check. -/
theorem rsum_some (ad : Addr) (cap : Nat) (l : List Int) (w : World) (hr : ReadsInt w .u8 (some ad) l.length l) (ho : Oct l) :
    Calls Try.prog 24 #[.slice (some ad) l.length cap] w fun e w' => e = .returned (.int .u16 (crcI l)) ∧ Below w.heap.size w w' := by
  have HR := Aside0.mk hr
  have HO := Aside0.mk ho
  have hm := hr.2.1
  clear hr ho
  go_enter Try.func24, Try.ntmps24
  go_wp2_with fail
  go_loopw [3, 4] (fun r i wr => ∃ k : Nat, k ≤ l.length ∧ r = .int .u32 (run 65535 (nat (l.take k)) : Nat) ∧ i = .int .i64 k ∧ Below w.heap.size w wr) (fun _ i _ => l.length - (intOf i).toNat)
  case atStart => exact ⟨0, by omega, rfl, rfl, Below.refl _ _⟩
  case round =>
    obtain ⟨k, hk, rfl, rfl, hb⟩ := hrel
    have B1 := Aside0.mk hb
    clear hb
    have hR := run_lt (r := 65535) (by omega) (HO.out.take k).bytes
    by_cases hlt : k < l.length
    · obtain ⟨ad', e, hcs⟩ := HR.out.2.2 (by omega)
      obtain rfl := Option.some.inj e
      have hz := pw_cell_below B1.out (hcs k hlt)
      have hb := HO.out.getD k
      have SN := Aside0.mk (run_snoc 65535 l k hlt)
      clear hcs
      obtain ⟨z, rz⟩ : ∃ z : Nat, l.getD k 0 = (z : Int) := ⟨(l.getD k 0).toNat, by omega⟩
      rw [rz, Int.toNat_natCast] at SN
      rw [rz] at hz hb
      have hzl : z < 256 := by omega
      clear rz hb
      generalize run 65535 (nat (l.take k)) = R at *
      have X := Aside0.mk (xor32 hR hzl)
      have XL := Aside0.mk (xor_lt hR (byte_lt hzl))
      have z0 : 0 ≤ (z : Int) := by omega
      have z1 : (z : Int) ≤ 255 := by omega
      clear hR hzl
      go_wp2_with fail
      obtain ⟨wo, rfl⟩ : ∃ wo : World, wo = wr := ⟨_, rfl⟩
      go_loopw [3, 5] (fun r i wq => ∃ j : Nat, j ≤ 8 ∧ r = .int .u32 (shn j (R ^^^ z * 256) : Nat) ∧ i = .int .i64 j ∧ Below w.heap.size w wq) (fun _ i _ => 8 - (intOf i).toNat)
      case atStart => exact ⟨0, by omega, by rw [X.out], rfl, B1.out⟩
      case round =>
        obtain ⟨j, hj, rfl, rfl, hb⟩ := hrel
        have B2 := Aside0.mk hb
        clear hb B1 hz
        by_cases hlt : j < 8
        · have hq := shn_lt j XL.out
          have SS := Aside0.mk (show shn (j + 1) (R ^^^ z * 256) = sh (shn j (R ^^^ z * 256)) from rfl)
          generalize shn j (R ^^^ z * 256) = q at *
          have q0 : 0 ≤ (q : Int) := by omega
          have q1 : (q : Int) ≤ 65535 := by omega
          by_cases hc : 32768 ≤ q
          · have e1 : decide (65536 ≤ (q : Int) * 2) = true := by simp; omega
            have e2 : 65536 ≤ (q : Int) * 2 := by omega
            have E := Aside0.mk (sh32_big hq hc)
            clear hc hq
            go_wp2
            go_roundw
            case rel => exact ⟨j + 1, by omega, by rw [SS.out, E.out], by go_num, B2.out⟩
            case measure => simp [intOf]; omega
          · have e1 : decide (65536 ≤ (q : Int) * 2) = false := by simp; omega
            have E := Aside0.mk (sh32_small hc)
            clear hc hq
            go_wp2
            go_roundw
            case rel => exact ⟨j + 1, by omega, by rw [SS.out, E.out], by go_num, B2.out⟩
            case measure => simp [intOf]; omega
        · obtain rfl : j = 8 := by omega
          go_wp2
          go_roundw
          case rel => exact ⟨k + 1, by omega, by rw [SN.out]; rfl, by go_num, B2.out⟩
          case measure => simp [intOf]; omega
    · have W := Aside0.mk (w16 ((run 65535 (nat (l.take k)) : Nat) : Int))
      have E : Aside0 (((run 65535 (nat (l.take k)) : Nat) : Int) = crcI l) := Aside0.mk (by rw [List.take_of_length_le (by omega)]; rfl)
      generalize run 65535 (nat (l.take k)) = R at *
      have q0 : 0 ≤ (R : Int) := by omega
      have q1 : (R : Int) ≤ 65535 := by omega
      clear hR
      go_wp2
      go_ret
      exact ⟨by rw [← E.out]; rfl, B1.out⟩

set_option maxHeartbeats 4000000 in
set_option maxRecDepth 100000 in
theorem rsum_none (cap : Nat) (w : World) :
    Calls Try.prog 24 #[.slice none 0 cap] w fun e w' => e = .returned (.int .u16 65535) ∧ Below w.heap.size w w' := by
  go_enter Try.func24, Try.ntmps24
  go_wp2_with fail
  go_loopw [3, 4] (fun r i wr => r = .int .u32 65535 ∧ i = .int .i64 0 ∧ Below w.heap.size w wr) (fun _ _ _ => 0)
  case atStart => exact ⟨rfl, rfl, Below.refl _ _⟩
  case round =>
    obtain ⟨rfl, rfl, hb⟩ := hrel
    have B1 := Aside0.mk hb
    clear hb
    go_wp2
    go_ret
    exact ⟨rfl, B1.out⟩

theorem rsum_calls (a : Option Addr) (cap : Nat) (l : List Int) (w : World) (hr : ReadsInt w .u8 a l.length l) (ho : Oct l) :
    Calls Try.prog 24 #[.slice a l.length cap] w fun e w' => e = .returned (.int .u16 (crcI l)) ∧ Below w.heap.size w w' := by
  cases a with
  | some ad => exact rsum_some ad cap l w hr ho
  | none =>
    have h0 : l.length = 0 := by
      rcases Nat.eq_zero_or_pos l.length with h | h
      · exact h
      · obtain ⟨_, h, _⟩ := hr.2.2 h; cases h
    obtain rfl := List.eq_nil_of_length_eq_zero h0
    exact rsum_none cap w

set_option maxHeartbeats 4000000 in
set_option maxRecDepth 100000 in
theorem rsnd_0 (F : Fr) (w : World) (hl2 : F.l > 2) : Calls Try.prog 18 #[.agg #[.int .u8 F.k, .int .u8 F.l, .int .u16 F.s, .int .u8 F.a, .int .u8 F.b, .int .u32 F.y]] w fun e w' => e = .returned (.bool false) ∧ Below w.heap.size w w' := by
  have el2 : decide (F.l > 2) = true := decide_eq_true hl2
  clear hl2
  go_enter Try.func18, Try.ntmps18
  go_wp2
  go_ret
  exact ⟨rfl, below_alloc (Below.refl _ _) _⟩
set_option maxHeartbeats 4000000 in
set_option maxRecDepth 100000 in
theorem rsnd_1 (F : Fr) (w : World) (hl2 : ¬ (F.l > 2)) (hk1 : F.k = 1) (ha5 : ¬ (F.a ≤ 5)) : Calls Try.prog 18 #[.agg #[.int .u8 F.k, .int .u8 F.l, .int .u16 F.s, .int .u8 F.a, .int .u8 F.b, .int .u32 F.y]] w fun e w' => e = .returned (.bool false) ∧ Below w.heap.size w w' := by
  have el2 : decide (F.l > 2) = false := decide_eq_false hl2
  have ek1 : (F.k == 1) = true := beq_iff_eq.mpr hk1
  have ea5 : decide (F.a ≤ 5) = false := decide_eq_false ha5
  clear hl2 hk1 ha5
  go_enter Try.func18, Try.ntmps18
  go_wp2
  go_ret
  exact ⟨rfl, below_alloc (Below.refl _ _) _⟩
set_option maxHeartbeats 4000000 in
set_option maxRecDepth 100000 in
theorem rsnd_2 (F : Fr) (w : World) (hl2 : ¬ (F.l > 2)) (hk1 : F.k = 1) (ha5 : F.a ≤ 5) (hb5 : ¬ (F.b ≤ 5)) : Calls Try.prog 18 #[.agg #[.int .u8 F.k, .int .u8 F.l, .int .u16 F.s, .int .u8 F.a, .int .u8 F.b, .int .u32 F.y]] w fun e w' => e = .returned (.bool false) ∧ Below w.heap.size w w' := by
  have el2 : decide (F.l > 2) = false := decide_eq_false hl2
  have ek1 : (F.k == 1) = true := beq_iff_eq.mpr hk1
  have ea5 : decide (F.a ≤ 5) = true := decide_eq_true ha5
  have eb5 : decide (F.b ≤ 5) = false := decide_eq_false hb5
  clear hl2 hk1 ha5 hb5
  go_enter Try.func18, Try.ntmps18
  go_wp2
  go_ret
  exact ⟨rfl, below_alloc (Below.refl _ _) _⟩
set_option maxHeartbeats 4000000 in
set_option maxRecDepth 100000 in
theorem rsnd_3 (F : Fr) (w : World) (hl2 : ¬ (F.l > 2)) (hk1 : F.k = 1) (ha5 : F.a ≤ 5) (hb5 : F.b ≤ 5) (hne : ¬ (¬ F.a = F.b)) : Calls Try.prog 18 #[.agg #[.int .u8 F.k, .int .u8 F.l, .int .u16 F.s, .int .u8 F.a, .int .u8 F.b, .int .u32 F.y]] w fun e w' => e = .returned (.bool false) ∧ Below w.heap.size w w' := by
  have el2 : decide (F.l > 2) = false := decide_eq_false hl2
  have ek1 : (F.k == 1) = true := beq_iff_eq.mpr hk1
  have ea5 : decide (F.a ≤ 5) = true := decide_eq_true ha5
  have eb5 : decide (F.b ≤ 5) = true := decide_eq_true hb5
  have ene : (F.a != F.b) = false := bne_eq_false_iff_eq.mpr (Decidable.not_not.1 hne)
  clear hl2 hk1 ha5 hb5 hne
  go_enter Try.func18, Try.ntmps18
  go_wp2
  go_ret
  exact ⟨rfl, below_alloc (Below.refl _ _) _⟩
set_option maxHeartbeats 4000000 in
set_option maxRecDepth 100000 in
theorem rsnd_4 (F : Fr) (w : World) (hl2 : ¬ (F.l > 2)) (hk1 : F.k = 1) (ha5 : F.a ≤ 5) (hb5 : F.b ≤ 5) (hne : ¬ F.a = F.b) : Calls Try.prog 18 #[.agg #[.int .u8 F.k, .int .u8 F.l, .int .u16 F.s, .int .u8 F.a, .int .u8 F.b, .int .u32 F.y]] w fun e w' => e = .returned (.bool true) ∧ Below w.heap.size w w' := by
  have el2 : decide (F.l > 2) = false := decide_eq_false hl2
  have ek1 : (F.k == 1) = true := beq_iff_eq.mpr hk1
  have ea5 : decide (F.a ≤ 5) = true := decide_eq_true ha5
  have eb5 : decide (F.b ≤ 5) = true := decide_eq_true hb5
  have ene : (F.a != F.b) = true := bne_iff_ne.mpr hne
  clear hl2 hk1 ha5 hb5 hne
  go_enter Try.func18, Try.ntmps18
  go_wp2
  go_ret
  exact ⟨rfl, below_alloc (Below.refl _ _) _⟩
set_option maxHeartbeats 4000000 in
set_option maxRecDepth 100000 in
theorem rsnd_5 (F : Fr) (w : World) (hl2 : ¬ (F.l > 2)) (hk1 : ¬ (F.k = 1)) (hk2 : F.k = 2) (ha0 : ¬ (F.a = 0)) : Calls Try.prog 18 #[.agg #[.int .u8 F.k, .int .u8 F.l, .int .u16 F.s, .int .u8 F.a, .int .u8 F.b, .int .u32 F.y]] w fun e w' => e = .returned (.bool false) ∧ Below w.heap.size w w' := by
  have el2 : decide (F.l > 2) = false := decide_eq_false hl2
  have ek1 : (F.k == 1) = false := beq_eq_false_iff_ne.mpr hk1
  have ek2 : (F.k == 2) = true := beq_iff_eq.mpr hk2
  have ea0 : (F.a == 0) = false := beq_eq_false_iff_ne.mpr ha0
  clear hl2 hk1 hk2 ha0
  go_enter Try.func18, Try.ntmps18
  go_wp2
  go_ret
  exact ⟨rfl, below_alloc (Below.refl _ _) _⟩
set_option maxHeartbeats 4000000 in
set_option maxRecDepth 100000 in
theorem rsnd_6 (F : Fr) (w : World) (hl2 : ¬ (F.l > 2)) (hk1 : ¬ (F.k = 1)) (hk2 : F.k = 2) (ha0 : F.a = 0) (hb0 : ¬ (F.b = 0)) : Calls Try.prog 18 #[.agg #[.int .u8 F.k, .int .u8 F.l, .int .u16 F.s, .int .u8 F.a, .int .u8 F.b, .int .u32 F.y]] w fun e w' => e = .returned (.bool false) ∧ Below w.heap.size w w' := by
  have el2 : decide (F.l > 2) = false := decide_eq_false hl2
  have ek1 : (F.k == 1) = false := beq_eq_false_iff_ne.mpr hk1
  have ek2 : (F.k == 2) = true := beq_iff_eq.mpr hk2
  have ea0 : (F.a == 0) = true := beq_iff_eq.mpr ha0
  have eb0 : (F.b == 0) = false := beq_eq_false_iff_ne.mpr hb0
  clear hl2 hk1 hk2 ha0 hb0
  go_enter Try.func18, Try.ntmps18
  go_wp2
  go_ret
  exact ⟨rfl, below_alloc (Below.refl _ _) _⟩
set_option maxHeartbeats 4000000 in
set_option maxRecDepth 100000 in
theorem rsnd_7 (F : Fr) (w : World) (hl2 : ¬ (F.l > 2)) (hk1 : ¬ (F.k = 1)) (hk2 : F.k = 2) (ha0 : F.a = 0) (hb0 : F.b = 0) (hy0 : ¬ (F.y = 0)) : Calls Try.prog 18 #[.agg #[.int .u8 F.k, .int .u8 F.l, .int .u16 F.s, .int .u8 F.a, .int .u8 F.b, .int .u32 F.y]] w fun e w' => e = .returned (.bool false) ∧ Below w.heap.size w w' := by
  have el2 : decide (F.l > 2) = false := decide_eq_false hl2
  have ek1 : (F.k == 1) = false := beq_eq_false_iff_ne.mpr hk1
  have ek2 : (F.k == 2) = true := beq_iff_eq.mpr hk2
  have ea0 : (F.a == 0) = true := beq_iff_eq.mpr ha0
  have eb0 : (F.b == 0) = true := beq_iff_eq.mpr hb0
  have ey0 : (F.y == 0) = false := beq_eq_false_iff_ne.mpr hy0
  clear hl2 hk1 hk2 ha0 hb0 hy0
  go_enter Try.func18, Try.ntmps18
  go_wp2
  go_ret
  exact ⟨rfl, below_alloc (Below.refl _ _) _⟩
set_option maxHeartbeats 4000000 in
set_option maxRecDepth 100000 in
theorem rsnd_8 (F : Fr) (w : World) (hl2 : ¬ (F.l > 2)) (hk1 : ¬ (F.k = 1)) (hk2 : F.k = 2) (ha0 : F.a = 0) (hb0 : F.b = 0) (hy0 : F.y = 0) : Calls Try.prog 18 #[.agg #[.int .u8 F.k, .int .u8 F.l, .int .u16 F.s, .int .u8 F.a, .int .u8 F.b, .int .u32 F.y]] w fun e w' => e = .returned (.bool true) ∧ Below w.heap.size w w' := by
  have el2 : decide (F.l > 2) = false := decide_eq_false hl2
  have ek1 : (F.k == 1) = false := beq_eq_false_iff_ne.mpr hk1
  have ek2 : (F.k == 2) = true := beq_iff_eq.mpr hk2
  have ea0 : (F.a == 0) = true := beq_iff_eq.mpr ha0
  have eb0 : (F.b == 0) = true := beq_iff_eq.mpr hb0
  have ey0 : (F.y == 0) = true := beq_iff_eq.mpr hy0
  clear hl2 hk1 hk2 ha0 hb0 hy0
  go_enter Try.func18, Try.ntmps18
  go_wp2
  go_ret
  exact ⟨rfl, below_alloc (Below.refl _ _) _⟩
set_option maxHeartbeats 4000000 in
set_option maxRecDepth 100000 in
theorem rsnd_9 (F : Fr) (w : World) (hl2 : ¬ (F.l > 2)) (hk1 : ¬ (F.k = 1)) (hk2 : ¬ (F.k = 2)) (hk3 : F.k = 3) (ha0 : ¬ (F.a = 0)) : Calls Try.prog 18 #[.agg #[.int .u8 F.k, .int .u8 F.l, .int .u16 F.s, .int .u8 F.a, .int .u8 F.b, .int .u32 F.y]] w fun e w' => e = .returned (.bool false) ∧ Below w.heap.size w w' := by
  have el2 : decide (F.l > 2) = false := decide_eq_false hl2
  have ek1 : (F.k == 1) = false := beq_eq_false_iff_ne.mpr hk1
  have ek2 : (F.k == 2) = false := beq_eq_false_iff_ne.mpr hk2
  have ek3 : (F.k == 3) = true := beq_iff_eq.mpr hk3
  have ea0 : (F.a == 0) = false := beq_eq_false_iff_ne.mpr ha0
  clear hl2 hk1 hk2 hk3 ha0
  go_enter Try.func18, Try.ntmps18
  go_wp2
  go_ret
  exact ⟨rfl, below_alloc (Below.refl _ _) _⟩
set_option maxHeartbeats 4000000 in
set_option maxRecDepth 100000 in
theorem rsnd_10 (F : Fr) (w : World) (hl2 : ¬ (F.l > 2)) (hk1 : ¬ (F.k = 1)) (hk2 : ¬ (F.k = 2)) (hk3 : F.k = 3) (ha0 : F.a = 0) (hb0 : ¬ (F.b = 0)) : Calls Try.prog 18 #[.agg #[.int .u8 F.k, .int .u8 F.l, .int .u16 F.s, .int .u8 F.a, .int .u8 F.b, .int .u32 F.y]] w fun e w' => e = .returned (.bool false) ∧ Below w.heap.size w w' := by
  have el2 : decide (F.l > 2) = false := decide_eq_false hl2
  have ek1 : (F.k == 1) = false := beq_eq_false_iff_ne.mpr hk1
  have ek2 : (F.k == 2) = false := beq_eq_false_iff_ne.mpr hk2
  have ek3 : (F.k == 3) = true := beq_iff_eq.mpr hk3
  have ea0 : (F.a == 0) = true := beq_iff_eq.mpr ha0
  have eb0 : (F.b == 0) = false := beq_eq_false_iff_ne.mpr hb0
  clear hl2 hk1 hk2 hk3 ha0 hb0
  go_enter Try.func18, Try.ntmps18
  go_wp2
  go_ret
  exact ⟨rfl, below_alloc (Below.refl _ _) _⟩
set_option maxHeartbeats 4000000 in
set_option maxRecDepth 100000 in
theorem rsnd_11 (F : Fr) (w : World) (hl2 : ¬ (F.l > 2)) (hk1 : ¬ (F.k = 1)) (hk2 : ¬ (F.k = 2)) (hk3 : F.k = 3) (ha0 : F.a = 0) (hb0 : F.b = 0) (hy0 : ¬ (F.y = 0)) : Calls Try.prog 18 #[.agg #[.int .u8 F.k, .int .u8 F.l, .int .u16 F.s, .int .u8 F.a, .int .u8 F.b, .int .u32 F.y]] w fun e w' => e = .returned (.bool false) ∧ Below w.heap.size w w' := by
  have el2 : decide (F.l > 2) = false := decide_eq_false hl2
  have ek1 : (F.k == 1) = false := beq_eq_false_iff_ne.mpr hk1
  have ek2 : (F.k == 2) = false := beq_eq_false_iff_ne.mpr hk2
  have ek3 : (F.k == 3) = true := beq_iff_eq.mpr hk3
  have ea0 : (F.a == 0) = true := beq_iff_eq.mpr ha0
  have eb0 : (F.b == 0) = true := beq_iff_eq.mpr hb0
  have ey0 : (F.y == 0) = false := beq_eq_false_iff_ne.mpr hy0
  clear hl2 hk1 hk2 hk3 ha0 hb0 hy0
  go_enter Try.func18, Try.ntmps18
  go_wp2
  go_ret
  exact ⟨rfl, below_alloc (Below.refl _ _) _⟩
set_option maxHeartbeats 4000000 in
set_option maxRecDepth 100000 in
theorem rsnd_12 (F : Fr) (w : World) (hl2 : ¬ (F.l > 2)) (hk1 : ¬ (F.k = 1)) (hk2 : ¬ (F.k = 2)) (hk3 : F.k = 3) (ha0 : F.a = 0) (hb0 : F.b = 0) (hy0 : F.y = 0) : Calls Try.prog 18 #[.agg #[.int .u8 F.k, .int .u8 F.l, .int .u16 F.s, .int .u8 F.a, .int .u8 F.b, .int .u32 F.y]] w fun e w' => e = .returned (.bool true) ∧ Below w.heap.size w w' := by
  have el2 : decide (F.l > 2) = false := decide_eq_false hl2
  have ek1 : (F.k == 1) = false := beq_eq_false_iff_ne.mpr hk1
  have ek2 : (F.k == 2) = false := beq_eq_false_iff_ne.mpr hk2
  have ek3 : (F.k == 3) = true := beq_iff_eq.mpr hk3
  have ea0 : (F.a == 0) = true := beq_iff_eq.mpr ha0
  have eb0 : (F.b == 0) = true := beq_iff_eq.mpr hb0
  have ey0 : (F.y == 0) = true := beq_iff_eq.mpr hy0
  clear hl2 hk1 hk2 hk3 ha0 hb0 hy0
  go_enter Try.func18, Try.ntmps18
  go_wp2
  go_ret
  exact ⟨rfl, below_alloc (Below.refl _ _) _⟩
set_option maxHeartbeats 4000000 in
set_option maxRecDepth 100000 in
theorem rsnd_13 (F : Fr) (w : World) (hl2 : ¬ (F.l > 2)) (hk1 : ¬ (F.k = 1)) (hk2 : ¬ (F.k = 2)) (hk3 : ¬ (F.k = 3)) : Calls Try.prog 18 #[.agg #[.int .u8 F.k, .int .u8 F.l, .int .u16 F.s, .int .u8 F.a, .int .u8 F.b, .int .u32 F.y]] w fun e w' => e = .returned (.bool false) ∧ Below w.heap.size w w' := by
  have el2 : decide (F.l > 2) = false := decide_eq_false hl2
  have ek1 : (F.k == 1) = false := beq_eq_false_iff_ne.mpr hk1
  have ek2 : (F.k == 2) = false := beq_eq_false_iff_ne.mpr hk2
  have ek3 : (F.k == 3) = false := beq_eq_false_iff_ne.mpr hk3
  clear hl2 hk1 hk2 hk3
  go_enter Try.func18, Try.ntmps18
  go_wp2
  go_ret
  exact ⟨rfl, below_alloc (Below.refl _ _) _⟩
/-- The reference's Sound is Sound. -/
theorem rsnd_calls (F : Fr) (w : World) (hw : F.wf) : Calls Try.prog 18 #[.agg #[.int .u8 F.k, .int .u8 F.l, .int .u16 F.s, .int .u8 F.a, .int .u8 F.b, .int .u32 F.y]] w fun e w' => e = .returned (.bool F.sound) ∧ Below w.heap.size w w' := by
  obtain ⟨⟨k0, k1⟩, ⟨l0, l1⟩, ⟨s0, s1⟩, ⟨a0, a1⟩, ⟨b0, b1⟩, y0, y1⟩ := hw
  by_cases hl2 : F.l > 2
  · rw [show F.sound = false from by rcases h : F.sound with _ | _; rfl; exact absurd (sound_iff.1 h) (by omega)]
    exact rsnd_0 F w hl2
  · by_cases hk1 : F.k = 1
    · by_cases ha5 : F.a ≤ 5
      · by_cases hb5 : F.b ≤ 5
        · by_cases hne : ¬ F.a = F.b
          · rw [show F.sound = true from sound_iff.2 (by omega)]
            exact rsnd_4 F w hl2 hk1 ha5 hb5 hne
          · rw [show F.sound = false from by rcases h : F.sound with _ | _; rfl; exact absurd (sound_iff.1 h) (by omega)]
            exact rsnd_3 F w hl2 hk1 ha5 hb5 hne
        · rw [show F.sound = false from by rcases h : F.sound with _ | _; rfl; exact absurd (sound_iff.1 h) (by omega)]
          exact rsnd_2 F w hl2 hk1 ha5 hb5
      · rw [show F.sound = false from by rcases h : F.sound with _ | _; rfl; exact absurd (sound_iff.1 h) (by omega)]
        exact rsnd_1 F w hl2 hk1 ha5
    · by_cases hk2 : F.k = 2
      · by_cases ha0 : F.a = 0
        · by_cases hb0 : F.b = 0
          · by_cases hy0 : F.y = 0
            · rw [show F.sound = true from sound_iff.2 (by omega)]
              exact rsnd_8 F w hl2 hk1 hk2 ha0 hb0 hy0
            · rw [show F.sound = false from by rcases h : F.sound with _ | _; rfl; exact absurd (sound_iff.1 h) (by omega)]
              exact rsnd_7 F w hl2 hk1 hk2 ha0 hb0 hy0
          · rw [show F.sound = false from by rcases h : F.sound with _ | _; rfl; exact absurd (sound_iff.1 h) (by omega)]
            exact rsnd_6 F w hl2 hk1 hk2 ha0 hb0
        · rw [show F.sound = false from by rcases h : F.sound with _ | _; rfl; exact absurd (sound_iff.1 h) (by omega)]
          exact rsnd_5 F w hl2 hk1 hk2 ha0
      · by_cases hk3 : F.k = 3
        · by_cases ha0 : F.a = 0
          · by_cases hb0 : F.b = 0
            · by_cases hy0 : F.y = 0
              · rw [show F.sound = true from sound_iff.2 (by omega)]
                exact rsnd_12 F w hl2 hk1 hk2 hk3 ha0 hb0 hy0
              · rw [show F.sound = false from by rcases h : F.sound with _ | _; rfl; exact absurd (sound_iff.1 h) (by omega)]
                exact rsnd_11 F w hl2 hk1 hk2 hk3 ha0 hb0 hy0
            · rw [show F.sound = false from by rcases h : F.sound with _ | _; rfl; exact absurd (sound_iff.1 h) (by omega)]
              exact rsnd_10 F w hl2 hk1 hk2 hk3 ha0 hb0
          · rw [show F.sound = false from by rcases h : F.sound with _ | _; rfl; exact absurd (sound_iff.1 h) (by omega)]
            exact rsnd_9 F w hl2 hk1 hk2 hk3 ha0
        · rw [show F.sound = false from by rcases h : F.sound with _ | _; rfl; exact absurd (sound_iff.1 h) (by omega)]
          exact rsnd_13 F w hl2 hk1 hk2 hk3
/-- Rows of four, and six, bytes that the call lays. -/
theorem Row.four {w0 W : World} (hb : Below w0.heap.size w0 W) (a b c d : Int) (ho : Oct [a, b, c, d]) : Row w0 (W.alloc (.cells #[.int .u8 a, .int .u8 b, .int .u8 c, .int .u8 d] 5)) W.heap.size (.slice (some ⟨W.heap.size, 0, none⟩) 4 4) [a, b, c, d] :=
  ⟨⟨rfl, .inr ⟨W.heap.size, 4, _, rfl, Nat.le_refl _, blk_new _ _, Nat.le_refl _, by unfold maxLen; omega, rfl, rfl⟩⟩, below_alloc hb _, hb.size, by simp, ho⟩
theorem six_reads {W : World} {g : Nat} {a b c d e f : Int} (h : W.heap[g]? = some (.cells #[.int .u8 a, .int .u8 b, .int .u8 c, .int .u8 d, .int .u8 e, .int .u8 f] 5 (0, 0))) : ReadsInt W .u8 (some ⟨g, 0, none⟩) 6 [a, b, c, d, e, f] :=
  reads_block h [a, b, c, d, e, f] (by simp) (by
    intro k hk
    have hk : k < 6 := hk
    match k, hk with
    | 0, _ => rfl
    | 1, _ => rfl
    | 2, _ => rfl
    | 3, _ => rfl
    | 4, _ => rfl
    | 5, _ => rfl)
theorem rsum_row (w0 w : World) (base : Nat) (v : Value) (l : List Int) (R : Row w0 w base v l) :
    Calls Try.prog 24 #[v] w fun e w' => e = .returned (.int .u16 (crcI l)) ∧ Below w.heap.size w w' := by
  obtain ⟨A, c, rfl, hr, _⟩ := R.reads
  exact rsum_calls A c l w hr R.2.2.2.2
/-- The reference's Encode's answer. -/
def REnc (w : World) (l : List Int) (e : Ending) (w' : World) : Prop := ∃ base v, e = .returned (.tuple #[v, .int .i64 0]) ∧ Row w w' base v l
set_option maxHeartbeats 4000000 in
set_option maxRecDepth 100000 in
theorem renc_no (F : Fr) (w : World) (hw : F.wf) (hs : F.sound = false) : Calls Try.prog 17 #[.agg #[.int .u8 F.k, .int .u8 F.l, .int .u16 F.s, .int .u8 F.a, .int .u8 F.b, .int .u32 F.y]] w fun e w' => e = .returned (.tuple #[.slice none 0 0, .int .i64 1]) ∧ Below w.heap.size w w' := by
  have SC := Aside0.mk (fun w => rsnd_calls F w hw)
  rw [hs] at SC
  clear hs hw
  go_enter Try.func17, Try.ntmps17
  go_wp2_with fail
  refine (SC.out _).mono ?_
  rintro e w1 ⟨rfl, hb⟩
  have B1 := Aside0.mk (below_then (below_alloc (Below.refl w.heap.size w) _) (by simp) hb)
  clear hb
  go_wp2
  go_ret2
  exact ⟨rfl, B1.out⟩
set_option maxHeartbeats 4000000 in
set_option maxRecDepth 100000 in
theorem renc_short (F : Fr) (w : World) (hw : F.wf) (hs : F.sound = true) (hk : ¬ F.k = 1) : Calls Try.prog 17 #[.agg #[.int .u8 F.k, .int .u8 F.l, .int .u16 F.s, .int .u8 F.a, .int .u8 F.b, .int .u32 F.y]] w (REnc w F.bytes) := by
  have SC := Aside0.mk (fun w => rsnd_calls F w hw)
  rw [hs] at SC
  have EB := Aside0.mk (bytes_short hk)
  have e1 : (F.k == 1) = false := beq_eq_false_iff_ne.mpr hk
  have O4 := Aside0.mk (oct_short hw)
  obtain ⟨⟨k0, k1⟩, ⟨l0, l1⟩, ⟨s0, s1⟩, ⟨a0, a1⟩, ⟨b0, b1⟩, y0, y1⟩ := hw
  have O6 : Aside0 (Oct [F.a, F.b, F.y / 16777216, F.y / 65536 % 256, F.y / 256 % 256, F.y % 256]) := Aside0.mk (Oct.cons a0 a1 (Oct.cons b0 b1 (Oct.cons (by omega) (by omega) (Oct.cons (by omega) (by omega) (Oct.cons (by omega) (by omega) (Oct.cons (by omega) (by omega) Oct.nil))))))
  have BX0 := Aside0.mk (show At (w.alloc (.cells #[.int .u8 F.k, .int .u8 F.l, .int .u16 F.s, .int .u8 F.a, .int .u8 F.b, .int .u32 F.y] 25)) w.heap.size F from blk_new _ _)
  clear hs hk
  go_enter Try.func17, Try.ntmps17
  go_wp2_with fail
  refine (SC.out _).mono ?_
  rintro e w1 ⟨rfl, hb⟩
  have B1 := Aside0.mk (below_then (below_alloc (Below.refl w.heap.size w) (.cells #[.int .u8 F.k, .int .u8 F.l, .int .u16 F.s, .int .u8 F.a, .int .u8 F.b, .int .u32 F.y] 25)) (by simp) hb)
  have BX1 := Aside0.mk (At.below BX0.out hb)
  clear hb
  have R0 := Aside0.mk (Row.four B1.out F.k F.l (F.s / 256) (F.s % 256) O4.out)
  obtain ⟨c0, c1, c2, c3, c4, c5⟩ := BX1.out.cells
  have X2 := Aside0.mk (BX1.out.below (below_alloc (Below.refl _ _) (.cells #[.int .u8 F.k, .int .u8 F.l, .int .u8 (F.s / 256), .int .u8 (F.s % 256)] 5)))
  have hd : F.s / 256 % 256 = F.s / 256 := by omega
  have hq : IntKind.u16.wrap (F.s.tdiv 256) = F.s / 256 := by rw [w16, Int.tdiv_eq_ediv_of_nonneg s0]; omega
  obtain ⟨d0, d1, d2, d3, d4, d5⟩ := X2.out.cells
  go_wp2_with fail
  have RA := Aside0.mk R0.out
  refine (rsum_row _ _ _ _ _ RA.out).mono ?_
  rintro e w3 ⟨rfl, hb⟩
  have RB := Aside0.mk (RA.out.below hb)
  clear hb
  have CR := Aside0.mk (crcI_range RA.out.2.2.2.2)
  generalize hcc : crcI [F.k, F.l, F.s / 256, F.s % 256] = cc at CR
  have HCC := Aside0.mk hcc
  clear hcc
  have cr0 := CR.out.1
  have cr1 := CR.out.2
  have hd3 : cc / 256 % 256 = cc / 256 := by omega
  have hq3 : IntKind.u16.wrap (cc.tdiv 256) = cc / 256 := by rw [w16, Int.tdiv_eq_ediv_of_nonneg cr0]; omega
  clear hq d0 d1 d2 d3 d4 d5 c0 c1 c2 c3 c4 c5
  have O2 := Aside0.mk (Oct.two (a := cc / 256) (b := cc % 256) (by omega) (by omega) (by omega) (by omega))
  have L2 : Aside0 ([F.k, F.l, F.s / 256, F.s % 256].length + 2 ≤ 1000000) := Aside0.mk (by show 4 + 2 ≤ 1000000; omega)
  go_wp2_with (at_builtin; have q2 := two_reads (blk_new w3 (.cells #[.int .u8 (cc / 256), .int .u8 (cc % 256)] 5)); refine append_bytes rfl _ _ rfl _ _ _ (RB.out.alloc (.cells #[.int .u8 (cc / 256), .int .u8 (cc % 256)] 5)) (some ⟨w3.heap.size, 0, none⟩) [cc / 256, cc % 256] _ _ q2 (fun k => by cases k) O2.out L2.out rfl rfl ?_; clear q2; intro v4 w4 R1 g1; have RC := Aside0.mk R1; clear R1 g1)
  go_ret2
  exact ⟨_, v4, rfl, by rw [EB.out]; have := RC.out; rw [← HCC.out] at this; exact this⟩
set_option maxHeartbeats 4000000 in
set_option maxRecDepth 100000 in
theorem renc_long (F : Fr) (w : World) (hw : F.wf) (hs : F.sound = true) (hk : F.k = 1) : Calls Try.prog 17 #[.agg #[.int .u8 F.k, .int .u8 F.l, .int .u16 F.s, .int .u8 F.a, .int .u8 F.b, .int .u32 F.y]] w (REnc w F.bytes) := by
  have SC := Aside0.mk (fun w => rsnd_calls F w hw)
  rw [hs] at SC
  have EB := Aside0.mk (bytes_long hk)
  have e1 : (F.k == 1) = true := beq_iff_eq.mpr hk
  have O4 := Aside0.mk (oct_short hw)
  obtain ⟨⟨k0, k1⟩, ⟨l0, l1⟩, ⟨s0, s1⟩, ⟨a0, a1⟩, ⟨b0, b1⟩, y0, y1⟩ := hw
  have O6 : Aside0 (Oct [F.a, F.b, F.y / 16777216, F.y / 65536 % 256, F.y / 256 % 256, F.y % 256]) := Aside0.mk (Oct.cons a0 a1 (Oct.cons b0 b1 (Oct.cons (by omega) (by omega) (Oct.cons (by omega) (by omega) (Oct.cons (by omega) (by omega) (Oct.cons (by omega) (by omega) Oct.nil))))))
  have BX0 := Aside0.mk (show At (w.alloc (.cells #[.int .u8 F.k, .int .u8 F.l, .int .u16 F.s, .int .u8 F.a, .int .u8 F.b, .int .u32 F.y] 25)) w.heap.size F from blk_new _ _)
  clear hs hk
  go_enter Try.func17, Try.ntmps17
  go_wp2_with fail
  refine (SC.out _).mono ?_
  rintro e w1 ⟨rfl, hb⟩
  have B1 := Aside0.mk (below_then (below_alloc (Below.refl w.heap.size w) (.cells #[.int .u8 F.k, .int .u8 F.l, .int .u16 F.s, .int .u8 F.a, .int .u8 F.b, .int .u32 F.y] 25)) (by simp) hb)
  have BX1 := Aside0.mk (At.below BX0.out hb)
  clear hb
  have R0 := Aside0.mk (Row.four B1.out F.k F.l (F.s / 256) (F.s % 256) O4.out)
  obtain ⟨c0, c1, c2, c3, c4, c5⟩ := BX1.out.cells
  have X2 := Aside0.mk (BX1.out.below (below_alloc (Below.refl _ _) (.cells #[.int .u8 F.k, .int .u8 F.l, .int .u8 (F.s / 256), .int .u8 (F.s % 256)] 5)))
  have hd : F.s / 256 % 256 = F.s / 256 := by omega
  have hq : IntKind.u16.wrap (F.s.tdiv 256) = F.s / 256 := by rw [w16, Int.tdiv_eq_ediv_of_nonneg s0]; omega
  obtain ⟨d0, d1, d2, d3, d4, d5⟩ := X2.out.cells
  have hd2 : F.y / 16777216 % 256 = F.y / 16777216 := by omega
  have L6 : Aside0 ([F.k, F.l, F.s / 256, F.s % 256].length + 6 ≤ 1000000) := Aside0.mk (by show 4 + 6 ≤ 1000000; omega)
  have Q2 : Aside0 (ReadsInt ((w1.alloc (.cells #[.int .u8 F.k, .int .u8 F.l, .int .u8 (F.s / 256), .int .u8 (F.s % 256)] 5)).alloc (.cells #[.int .u8 F.a, .int .u8 F.b, .int .u8 (F.y / 16777216), .int .u8 (F.y / 65536 % 256), .int .u8 (F.y / 256 % 256), .int .u8 (F.y % 256)] 5)) .u8 (some ⟨w1.heap.size + 1, 0, none⟩) 6 [F.a, F.b, F.y / 16777216, F.y / 65536 % 256, F.y / 256 % 256, F.y % 256]) := Aside0.mk (by
    have := six_reads (blk_new (w1.alloc (.cells #[.int .u8 F.k, .int .u8 F.l, .int .u8 (F.s / 256), .int .u8 (F.s % 256)] 5)) (.cells #[.int .u8 F.a, .int .u8 F.b, .int .u8 (F.y / 16777216), .int .u8 (F.y / 65536 % 256), .int .u8 (F.y / 256 % 256), .int .u8 (F.y % 256)] 5))
    rwa [show (w1.alloc (.cells #[.int .u8 F.k, .int .u8 F.l, .int .u8 (F.s / 256), .int .u8 (F.s % 256)] 5)).heap.size = w1.heap.size + 1 by simp] at this)
  go_wp2_with (at_builtin; refine append_bytes rfl _ _ rfl _ _ _ (R0.out.alloc (.cells #[.int .u8 F.a, .int .u8 F.b, .int .u8 (F.y / 16777216), .int .u8 (F.y / 65536 % 256), .int .u8 (F.y / 256 % 256), .int .u8 (F.y % 256)] 5)) (some ⟨w1.heap.size + 1, 0, none⟩) [F.a, F.b, F.y / 16777216, F.y / 65536 % 256, F.y / 256 % 256, F.y % 256] _ _ Q2.out (fun k => by cases k) O6.out L6.out rfl rfl ?_; intro v2 w2 R1 g1; have RA := Aside0.mk R1; clear R1 g1)
  refine (rsum_row _ _ _ _ _ RA.out).mono ?_
  rintro e w3 ⟨rfl, hb⟩
  have RB := Aside0.mk (RA.out.below hb)
  clear hb
  have CR := Aside0.mk (crcI_range RA.out.2.2.2.2)
  generalize hcc : crcI ([F.k, F.l, F.s / 256, F.s % 256] ++ [F.a, F.b, F.y / 16777216, F.y / 65536 % 256, F.y / 256 % 256, F.y % 256]) = cc at CR
  have HCC := Aside0.mk hcc
  clear hcc
  have cr0 := CR.out.1
  have cr1 := CR.out.2
  have hd3 : cc / 256 % 256 = cc / 256 := by omega
  have hq3 : IntKind.u16.wrap (cc.tdiv 256) = cc / 256 := by rw [w16, Int.tdiv_eq_ediv_of_nonneg cr0]; omega
  clear hq d0 d1 d2 d3 d4 d5 c0 c1 c2 c3 c4 c5
  have O2 := Aside0.mk (Oct.two (a := cc / 256) (b := cc % 256) (by omega) (by omega) (by omega) (by omega))
  have L2 : Aside0 (([F.k, F.l, F.s / 256, F.s % 256] ++ [F.a, F.b, F.y / 16777216, F.y / 65536 % 256, F.y / 256 % 256, F.y % 256]).length + 2 ≤ 1000000) := Aside0.mk (by show 10 + 2 ≤ 1000000; omega)
  go_wp2_with (at_builtin; have q2 := two_reads (blk_new w3 (.cells #[.int .u8 (cc / 256), .int .u8 (cc % 256)] 5)); refine append_bytes rfl _ _ rfl _ _ _ (RB.out.alloc (.cells #[.int .u8 (cc / 256), .int .u8 (cc % 256)] 5)) (some ⟨w3.heap.size, 0, none⟩) [cc / 256, cc % 256] _ _ q2 (fun k => by cases k) O2.out L2.out rfl rfl ?_; clear q2; intro v4 w4 R1 g1; have RC := Aside0.mk R1; clear R1 g1)
  go_ret2
  exact ⟨_, v4, rfl, by rw [EB.out]; have := RC.out; rw [← HCC.out] at this; exact this⟩
theorem renc_fr (F : Fr) (w : World) (hw : F.wf) (hs : F.sound = true) : Calls Try.prog 17 #[.agg #[.int .u8 F.k, .int .u8 F.l, .int .u16 F.s, .int .u8 F.a, .int .u8 F.b, .int .u32 F.y]] w (REnc w F.bytes) := by
  by_cases hk : F.k = 1
  · exact renc_long F w hw hs hk
  · exact renc_short F w hw hs hk
end Go.Proofs.Ytamaemlhnkabcaa.Own
