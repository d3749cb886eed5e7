/- The walk of the reference's Sum, and of CrcSums. -/
import Derived.Test.YtckgiilloahcjaaOwnB
namespace Go.Proofs.Ytckgiilloahcjaa.Own
open Go.RowKit Go.Proofs.Ytckgiilloahcjaa.Crc Go.Proofs.YtckgiilloahcjaaW.PrintWords Go.Proofs.YtckgiilloahcjaaW.PrintLast Go.Proofs.YtckgiilloahcjaaW.PrintMore
set_option linter.unusedVariables false
set_option linter.unusedSimpArgs false

theorem xor32 {r c : Nat} (h : r < 65536) (hc : c < 256) : bits .xor .u32 (r : Int) ((c : Int) * 256) = ((shn 0 (r ^^^ c * 256) : Nat) : Int) := by
  have := u32_xor_nat r (c * 256) (by omega) (by omega)
  rw [Int.natCast_mul] at this
  exact this
theorem sh32_big {r : Nat} (h : r < 65536) (c : 32768 ≤ r) : bits .xor .u32 ((r : Int) * 2 - 65536) 4129 = ((sh r : Nat) : Int) := by
  rw [show (r : Int) * 2 - 65536 = ((r * 2 % 65536 : Nat) : Int) by omega, show (4129 : Int) = ((4129 : Nat) : Int) from rfl, u32_xor_nat _ _ (by omega) (by omega)]
  unfold sh
  rw [if_pos c]
theorem sh32_small {r : Nat} (c : ¬ 32768 ≤ r) : (r : Int) * 2 = ((sh r : Nat) : Int) := by
  unfold sh
  rw [if_neg c]
  omega

set_option maxHeartbeats 4000000 in
set_option maxRecDepth 100000 in
/-- The reference's Sum of any bytes that are read is their check. -/
theorem rsum_some (ad : Addr) (cap : Nat) (l : List Int) (w : World) (hr : ReadsInt w .u8 (some ad) l.length l) (ho : Oct l) :
    Calls Try.prog 13 #[.slice (some ad) l.length cap] w fun e w' => e = .returned (.int .u16 (crcI l)) ∧ Below w.heap.size w w' := by
  have HR := Aside0.mk hr
  have HO := Aside0.mk ho
  have hm := hr.2.1
  clear hr ho
  go_enter Try.func13, Try.ntmps13
  go_wp2_with fail
  go_loopw [3, 4] (fun r i wr => ∃ k : Nat, k ≤ l.length ∧ r = .int .u32 (run 65535 (nat (l.take k)) : Nat) ∧ i = .int .i64 k ∧ Below w.heap.size w wr) (fun _ i _ => l.length - (intOf i).toNat)
  case atStart => exact ⟨0, by omega, rfl, rfl, Below.refl _ _⟩
  case round =>
    obtain ⟨k, hk, rfl, rfl, hb⟩ := hrel
    have B1 := Aside0.mk hb
    clear hb
    have hR := run_lt (r := 65535) (by omega) (HO.out.take k).bytes
    by_cases hlt : k < l.length
    · obtain ⟨ad', e, hcs⟩ := HR.out.2.2 (by omega)
      obtain rfl := Option.some.inj e
      have hz := pw_cell_below B1.out (hcs k hlt)
      have hb := HO.out.getD k
      have SN := Aside0.mk (run_snoc 65535 l k hlt)
      clear hcs
      obtain ⟨z, rz⟩ : ∃ z : Nat, l.getD k 0 = (z : Int) := ⟨(l.getD k 0).toNat, by omega⟩
      rw [rz, Int.toNat_natCast] at SN
      rw [rz] at hz hb
      have hzl : z < 256 := by omega
      clear rz hb
      generalize run 65535 (nat (l.take k)) = R at *
      have X := Aside0.mk (xor32 hR hzl)
      have XL := Aside0.mk (xor_lt hR (byte_lt hzl))
      have z0 : 0 ≤ (z : Int) := by omega
      have z1 : (z : Int) ≤ 255 := by omega
      clear hR hzl
      go_wp2_with fail
      obtain ⟨wo, rfl⟩ : ∃ wo : World, wo = wr := ⟨_, rfl⟩
      go_loopw [3, 5] (fun r i wq => ∃ j : Nat, j ≤ 8 ∧ r = .int .u32 (shn j (R ^^^ z * 256) : Nat) ∧ i = .int .i64 j ∧ Below w.heap.size w wq) (fun _ i _ => 8 - (intOf i).toNat)
      case atStart => exact ⟨0, by omega, by rw [X.out], rfl, B1.out⟩
      case round =>
        obtain ⟨j, hj, rfl, rfl, hb⟩ := hrel
        have B2 := Aside0.mk hb
        clear hb B1 hz
        by_cases hlt : j < 8
        · have hq := shn_lt j XL.out
          have SS := Aside0.mk (show shn (j + 1) (R ^^^ z * 256) = sh (shn j (R ^^^ z * 256)) from rfl)
          generalize shn j (R ^^^ z * 256) = q at *
          have q0 : 0 ≤ (q : Int) := by omega
          have q1 : (q : Int) ≤ 65535 := by omega
          by_cases hc : 32768 ≤ q
          · have e1 : decide (65536 ≤ (q : Int) * 2) = true := by simp; omega
            have e2 : 65536 ≤ (q : Int) * 2 := by omega
            have E := Aside0.mk (sh32_big hq hc)
            clear hc hq
            go_wp2
            go_roundw
            case rel => exact ⟨j + 1, by omega, by rw [SS.out, E.out], by go_num, B2.out⟩
            case measure => simp [intOf]; omega
          · have e1 : decide (65536 ≤ (q : Int) * 2) = false := by simp; omega
            have E := Aside0.mk (sh32_small hc)
            clear hc hq
            go_wp2
            go_roundw
            case rel => exact ⟨j + 1, by omega, by rw [SS.out, E.out], by go_num, B2.out⟩
            case measure => simp [intOf]; omega
        · obtain rfl : j = 8 := by omega
          go_wp2
          go_roundw
          case rel => exact ⟨k + 1, by omega, by rw [SN.out]; rfl, by go_num, B2.out⟩
          case measure => simp [intOf]; omega
    · have W := Aside0.mk (w16 ((run 65535 (nat (l.take k)) : Nat) : Int))
      have E : Aside0 (((run 65535 (nat (l.take k)) : Nat) : Int) = crcI l) := Aside0.mk (by rw [List.take_of_length_le (by omega)]; rfl)
      generalize run 65535 (nat (l.take k)) = R at *
      have q0 : 0 ≤ (R : Int) := by omega
      have q1 : (R : Int) ≤ 65535 := by omega
      clear hR
      go_wp2
      go_ret
      exact ⟨by rw [← E.out]; rfl, B1.out⟩

set_option maxHeartbeats 4000000 in
set_option maxRecDepth 100000 in
theorem rsum_none (cap : Nat) (w : World) :
    Calls Try.prog 13 #[.slice none 0 cap] w fun e w' => e = .returned (.int .u16 65535) ∧ Below w.heap.size w w' := by
  go_enter Try.func13, Try.ntmps13
  go_wp2_with fail
  go_loopw [3, 4] (fun r i wr => r = .int .u32 65535 ∧ i = .int .i64 0 ∧ Below w.heap.size w wr) (fun _ _ _ => 0)
  case atStart => exact ⟨rfl, rfl, Below.refl _ _⟩
  case round =>
    obtain ⟨rfl, rfl, hb⟩ := hrel
    have B1 := Aside0.mk hb
    clear hb
    go_wp2
    go_ret
    exact ⟨rfl, B1.out⟩

theorem rsum_calls (a : Option Addr) (cap : Nat) (l : List Int) (w : World) (hr : ReadsInt w .u8 a l.length l) (ho : Oct l) :
    Calls Try.prog 13 #[.slice a l.length cap] w fun e w' => e = .returned (.int .u16 (crcI l)) ∧ Below w.heap.size w w' := by
  cases a with
  | some ad => exact rsum_some ad cap l w hr ho
  | none =>
    have h0 : l.length = 0 := by
      rcases Nat.eq_zero_or_pos l.length with h | h
      · exact h
      · obtain ⟨_, h, _⟩ := hr.2.2 h; cases h
    obtain rfl := List.eq_nil_of_length_eq_zero h0
    exact rsum_none cap w

set_option maxHeartbeats 4000000 in
set_option maxRecDepth 100000 in
theorem crcSums_walk (a : Option Addr) (cap : Nat) (l : List Int) (w : World) (hr : ReadsInt w .u8 a l.length l) (hm : l.length ≤ maxLen) (ho : ∀ x ∈ l, (Lit.int .u8 x).wf = true) (y : l.length * 1 ≤ 140737488351232) :
    Calls Try.prog 6 #[.slice a l.length cap] w fun e w' => e = .returned (.bool true) ∧ Below w.heap.size w w' := by
  have HR := Aside0.mk hr
  have HO : Aside0 (Oct l) := Aside0.mk ho
  unfold maxLen at hm
  clear hr ho
  by_cases hl : l.length ≤ 1000
  · go_enter Try.func6, Try.ntmps6
    go_wp2_with fail
    refine (known_calls _).mono ?_
    rintro e w1 ⟨rfl, hb⟩
    have B1 := Aside0.mk hb
    clear hb
    go_wp2_with fail
    refine (sum_calls a cap l _ (HR.out.below B1.out) HO.out).mono ?_
    rintro e w2 ⟨rfl, hb⟩
    have B2 := Aside0.mk (below_then B1.out B1.out.size hb)
    clear hb
    go_wp2_with fail
    refine (rsum_calls a cap l _ (HR.out.below B2.out) HO.out).mono ?_
    rintro e w3 ⟨rfl, hb⟩
    have B3 := Aside0.mk (below_then B2.out B2.out.size hb)
    clear hb
    go_wp2
    go_ret
    exact ⟨by simp, B3.out⟩
  · have hl2 : 1000 < l.length := by omega
    clear hl
    go_enter Try.func6, Try.ntmps6
    go_wp2_with fail
    refine (known_calls _).mono ?_
    rintro e w1 ⟨rfl, hb⟩
    have B1 := Aside0.mk hb
    clear hb
    go_wp2
    go_ret
    exact ⟨rfl, B1.out⟩
end Go.Proofs.Ytckgiilloahcjaa.Own
