/- The walk of CreditFull: it returns true for every input. -/
import Derived.Test.YtcefanjnalbihaaOwnE
import Derived.StillTailTactics
namespace Go.Proofs.Ytcefanjnalbihaa.Own
open Go.RowKit Go.Proofs.YtcefanjnalbihaaW.PrintWords Go.Proofs.YtcefanjnalbihaaW.PrintLast Go.Proofs.YtcefanjnalbihaaW.PrintMore
set_option linter.unusedVariables false
set_option linter.unusedSimpArgs false

set_option maxHeartbeats 2000000 in
theorem sent_eq (g : Nat) (s l : Int) (w0 w : World) (hS : St w0 w g s l) :
    Calls Try.prog 14 #[.pointer (some ⟨g, 0, none⟩)] w fun e w' => e = .returned (.int .u64 s) ∧ w = w' := by
  have hc0 := hS.c0
  clear hS
  go_enter Try.func14, Try.ntmps14
  go_wp2
  go_ret
  exact ⟨rfl, rfl⟩

theorem w8 (n : Int) : IntKind.u8.wrap n = n % 256 := by simp [IntKind.wrap, IntKind.bits, IntKind.signed]
theorem spelled (q z : Int) (h0 : 0 ≤ q) (h1 : q ≤ 9000000000000000000) (z0 : 0 ≤ z) (z1 : z ≤ 255) :
    IntKind.u16.wrap ((IntKind.u64.wrap (q + IntKind.u64.wrap ((IntKind.u8.wrap (z.tdiv 2)).tmod 9))).tmod 65536) = (q + z / 2 % 9) % 65536 := by
  rw [Int.tdiv_eq_ediv_of_nonneg z0, w8, w64, Int.tmod_eq_emod_of_nonneg (Int.emod_nonneg _ (by decide)), Int.tmod_eq_emod_of_nonneg (Int.emod_nonneg _ (by decide)), w64, w16]
  omega

set_option maxHeartbeats 4000000 in
set_option maxRecDepth 100000 in
theorem creditFull_some (n : Int) (ad : Addr) (cap : Nat) (l : List Int) (w : World) (w0 : (Lit.int .u32 n).wf = true) (hr : ReadsInt w .u8 (some ad) l.length l) (hl : l.length ≤ 200) (hw : ∀ x ∈ l, (Lit.int .u8 x).wf = true) :
    Calls Try.prog 7 #[.int .u32 n, .slice (some ad) l.length cap] w fun e w' => e = .returned (.bool true) ∧ Below w.heap.size w w' := by
  obtain ⟨n0, n1⟩ := lo32 w0
  have HR := Aside0.mk hr
  have HW := Aside0.mk hw
  clear w0 hr hw
  go_enter Try.func7, Try.ntmps7
  go_wp2_with fail
  refine (new_St n 2 w w (Below.refl _ _) (by omega) (by omega) (by omega) (by omega)).mono ?_
  rintro e w1 ⟨g, rfl, hS⟩
  have S0 := Aside0.mk hS
  clear hS
  go_wp2_with fail
  go_loopw [6] (fun i wr => ∃ k : Nat, ∃ q L : Int, k ≤ l.length ∧ n ≤ q ∧ q ≤ n + k ∧ q ≤ L ∧ L ≤ q + 8 ∧ i = .int .i64 k ∧ St w wr g q L) (fun i _ => l.length - (intOf i).toNat)
  case atStart => exact ⟨0, n, n + 2, by omega, by omega, by omega, by omega, by omega, rfl, S0.out⟩
  case round =>
    obtain ⟨k, q, L, hk, hq0, hq1, hq2, hq3, rfl, hS⟩ := hrel
    have S1 := Aside0.mk hS
    clear hS S0
    by_cases hlt : k < l.length
    · obtain ⟨z, ⟨z0, z1⟩, hz⟩ := read_byte HR.out HW.out S1.out.2.2 k hlt
      by_cases hev : z % 2 = 0
      · have e1 : (z % 2 == 0) = true := by simp [hev]
        clear hev
        by_cases hql : q = L
        · subst hql
          go_wp2_with fail
          refine (next_no g _ w _ S1.out (by omega) (by omega)).mono ?_
          rintro e w3 ⟨rfl, hS⟩
          have S2 := Aside0.mk hS
          clear hS
          go_wp2
          go_roundw
          case rel => exact ⟨k + 1, q, q, by omega, by omega, by omega, by omega, by omega, by go_num, S2.out⟩
          case measure => simp [intOf]; omega
        · have hql' : q < L := by omega
          clear hql
          go_wp2_with fail
          refine (next_yes g _ _ w _ S1.out (by omega) hql' (by omega) (by omega)).mono ?_
          rintro e w3 ⟨rfl, hS⟩
          have S2 := Aside0.mk hS
          clear hS
          go_wp2
          go_roundw
          case rel => exact ⟨k + 1, q + 1, L, by omega, by omega, by omega, by omega, by omega, by go_num, S2.out⟩
          case measure => simp [intOf]; omega
      · have e1 : (z % 2 == 0) = false := by simp [hev]
        clear hev
        have HB := Aside0.mk (spelled q z (by omega) (by omega) z0 z1)
        by_cases hx : L < q + z / 2 % 9
        · go_wp2_with fail
          go_region_with (first | (go_at_call 14; (with_reducible refine (sent_eq g q L w _ S1.out.drew).mono ?_); rintro e w' ⟨rfl, rfl⟩) | (go_at_call 11; (with_reducible refine (hear_yes (q + z / 2 % 9) g _ _ _ w _ S1.out.drew (by omega) (by omega) (widen_near _ _ _ (by omega) (by omega) (by omega) (by omega) HB.out) (by omega) (by omega)).mono ?_); rintro e w3 ⟨rfl, hS⟩; have S2 := Aside0.mk hS; clear hS))
          all_goals
            go_wp2
            go_roundw
            case rel => exact ⟨k + 1, q, q + z / 2 % 9, by omega, by omega, by omega, by omega, by omega, by go_num, S2.out⟩
            case measure => simp [intOf]; omega
        · go_wp2_with fail
          go_region_with (first | (go_at_call 14; (with_reducible refine (sent_eq g q L w _ S1.out.drew).mono ?_); rintro e w' ⟨rfl, rfl⟩) | (go_at_call 11; (with_reducible refine (hear_no g _ _ _ w _ S1.out.drew (by omega) (by omega) (Or.inl (by rw [widen_near _ (q + z / 2 % 9) _ (by omega) (by omega) (by omega) (by omega) HB.out]; omega))).mono ?_); rintro e w3 ⟨rfl, hS⟩; have S2 := Aside0.mk hS; clear hS))
          all_goals
            go_wp2
            go_roundw
            case rel => exact ⟨k + 1, q, L, by omega, by omega, by omega, by omega, by omega, by go_num, S2.out⟩
            case measure => simp [intOf]; omega
    · go_wp2_with fail
      refine (limit_calls g _ _ w _ S1.out).mono ?_
      rintro e w3 ⟨rfl, hS⟩
      have S2 := Aside0.mk hS
      clear hS
      go_wp2_with fail
      go_loopw [8] (fun i wr => ∃ j : Nat, ∃ p : Int, j ≤ 20 ∧ q ≤ p ∧ p ≤ L ∧ (p < L → L - p + j ≤ 8) ∧ i = .int .i64 j ∧ St w wr g p L) (fun i _ => 20 - (intOf i).toNat)
      case atStart => exact ⟨0, q, by omega, by omega, by omega, by omega, rfl, S2.out⟩
      case round =>
        obtain ⟨j, p, hj, hp0, hp1, hp2, rfl, hS⟩ := hrel
        have S3 := Aside0.mk hS
        clear hS S2
        by_cases hlt : j < 20
        · by_cases hpl : p = L
          · subst hpl
            go_wp2_with fail
            refine (next_no g _ w _ S3.out (by omega) (by omega)).mono ?_
            rintro e w4 ⟨rfl, hS⟩
            have S4 := Aside0.mk hS
            clear hS
            go_wp2
            go_roundw
            case rel => exact ⟨j + 1, p, by omega, by omega, by omega, by omega, by go_num, S4.out⟩
            case measure => simp [intOf]; omega
          · have hpl' : p < L := by omega
            clear hpl
            go_wp2_with fail
            refine (next_yes g _ _ w _ S3.out (by omega) hpl' (by omega) (by omega)).mono ?_
            rintro e w4 ⟨rfl, hS⟩
            have S4 := Aside0.mk hS
            clear hS
            go_wp2
            go_roundw
            case rel => exact ⟨j + 1, p + 1, by omega, by omega, by omega, by omega, by go_num, S4.out⟩
            case measure => simp [intOf]; omega
        · obtain rfl : p = L := by omega
          go_wp2_with fail
          refine (known_calls _).mono ?_
          rintro e w4 ⟨rfl, hb⟩
          have S4 := Aside0.mk (S3.out.below hb)
          clear hb
          go_wp2_with fail
          refine (sent_calls g _ _ w _ S4.out).mono ?_
          rintro e w5 ⟨rfl, hS⟩
          have S5 := Aside0.mk hS
          clear hS
          go_wp2_with fail
          refine (usable_is 0 g _ _ w _ S5.out (by omega) (by omega) (by omega) (by omega) (by omega)).mono ?_
          rintro e w6 ⟨rfl, hS⟩
          have S6 := Aside0.mk hS
          clear hS
          go_wp2
          go_ret
          exact ⟨rfl, S6.out.2.2⟩
end Go.Proofs.Ytcefanjnalbihaa.Own
