/- The walk of CreditOrder: it returns true for every input. -/
import Derived.Test.YtcefanjnalbihaaOwnD
namespace Go.Proofs.Ytcefanjnalbihaa.Own
open Go.RowKit Go.Proofs.YtcefanjnalbihaaW.PrintWords Go.Proofs.YtcefanjnalbihaaW.PrintLast Go.Proofs.YtcefanjnalbihaaW.PrintMore
set_option linter.unusedVariables false
set_option linter.unusedSimpArgs false

/-- A byte of a slice that came in, as it is read later on. -/
theorem read_byte {w wr : World} {ad : Addr} {l : List Int} (hr : ReadsInt w .u8 (some ad) l.length l) (hw : ∀ x ∈ l, (Lit.int .u8 x).wf = true) (hb : Below w.heap.size w wr) (k : Nat) (hk : k < l.length) :
    ∃ z : Int, (0 ≤ z ∧ z ≤ 255) ∧ wr.cell? (ad.add k) = some (.int .u8 z) := by
  obtain ⟨ad', e, hc⟩ := hr.2.2 (by omega)
  obtain rfl := Option.some.inj e
  have hz : l.getD k 0 ∈ l := by
    rw [List.getD_eq_getElem?_getD, List.getElem?_eq_getElem hk]; exact List.getElem_mem hk
  exact ⟨l.getD k 0, lo8 (hw _ hz), pw_cell_below hb (hc k hk)⟩

set_option maxHeartbeats 4000000 in
set_option maxRecDepth 100000 in
theorem creditOrder_some (n : Int) (ad : Addr) (cap : Nat) (l : List Int) (w : World) (w0 : (Lit.int .u32 n).wf = true) (hr : ReadsInt w .u8 (some ad) l.length l) (hl : l.length ≤ 100) (hw : ∀ x ∈ l, (Lit.int .u8 x).wf = true) :
    Calls Try.prog 3 #[.int .u32 n, .slice (some ad) l.length cap] w fun e w' => e = .returned (.bool true) ∧ Below w.heap.size w w' := by
  obtain ⟨n0, n1⟩ := lo32 w0
  have HR := Aside0.mk hr
  have HW := Aside0.mk hw
  clear w0 hr hw
  go_enter Try.func3, Try.ntmps3
  go_wp2_with fail
  refine (new_St n 1 w w (Below.refl _ _) (by omega) (by omega) (by omega) (by omega)).mono ?_
  rintro e w1 ⟨g, rfl, hS⟩
  have S0 := Aside0.mk hS
  clear hS
  go_wp2_with fail
  go_loopw [6, 7] (fun c i wr => ∃ k : Nat, ∃ L : Int, k ≤ l.length ∧ n + 1 ≤ L ∧ L ≤ n + 8 ∧ c = .int .u64 L ∧ i = .int .i64 k ∧ St w wr g n L) (fun _ i _ => l.length - (intOf i).toNat)
  case atStart => exact ⟨0, n + 1, by omega, by omega, by omega, rfl, rfl, S0.out⟩
  case round =>
    obtain ⟨k, L, hk, hL0, hL1, rfl, rfl, hS⟩ := hrel
    have S1 := Aside0.mk hS
    clear hS S0
    by_cases hlt : k < l.length
    · obtain ⟨z, ⟨z0, z1⟩, hz⟩ := read_byte HR.out HW.out S1.out.2.2 k hlt
      by_cases hx : L < n + z % 9
      · have e1 : decide (L < n + z % 9) = true := decide_eq_true hx
        go_wp2_with fail
        refine (hear_yes (n + z % 9) g _ _ _ w _ S1.out (by omega) (by omega) (widen_near _ _ _ (by omega) (by omega) (by omega) (by omega) rfl) (by omega) (by omega)).mono ?_
        rintro e w3 ⟨rfl, hS⟩
        have S2 := Aside0.mk hS
        clear hS
        go_wp2_with fail
        refine (limit_calls g _ _ w _ S2.out).mono ?_
        rintro e w4 ⟨rfl, hS⟩
        have S3 := Aside0.mk hS
        clear hS
        go_wp2
        go_roundw
        case rel => exact ⟨k + 1, n + z % 9, by omega, by omega, by omega, rfl, by go_num, S3.out⟩
        case measure => simp [intOf]; omega
      · have e1 : decide (L < n + z % 9) = false := decide_eq_false hx
        go_wp2_with fail
        refine (hear_no g _ _ _ w _ S1.out (by omega) (by omega) (Or.inl (by rw [widen_near _ (n + z % 9) _ (by omega) (by omega) (by omega) (by omega) rfl]; omega))).mono ?_
        rintro e w3 ⟨rfl, hS⟩
        have S2 := Aside0.mk hS
        clear hS
        go_wp2_with fail
        refine (limit_calls g _ _ w _ S2.out).mono ?_
        rintro e w4 ⟨rfl, hS⟩
        have S3 := Aside0.mk hS
        clear hS
        go_wp2
        go_roundw
        case rel => exact ⟨k + 1, L, by omega, by omega, by omega, rfl, by go_num, S3.out⟩
        case measure => simp [intOf]; omega
    · go_wp2_with fail
      refine (known_calls _).mono ?_
      rintro e w2 ⟨rfl, hb⟩
      have S2 := Aside0.mk (S1.out.below hb)
      clear hb
      go_wp2
      go_ret
      exact ⟨rfl, S2.out.2.2⟩

set_option maxHeartbeats 4000000 in
set_option maxRecDepth 100000 in
theorem creditOrder_none (n : Int) (cap : Nat) (w : World) (w0 : (Lit.int .u32 n).wf = true) :
    Calls Try.prog 3 #[.int .u32 n, .slice none 0 cap] w fun e w' => e = .returned (.bool true) ∧ Below w.heap.size w w' := by
  obtain ⟨n0, n1⟩ := lo32 w0
  clear w0
  go_enter Try.func3, Try.ntmps3
  go_wp2_with fail
  refine (new_St n 1 w w (Below.refl _ _) (by omega) (by omega) (by omega) (by omega)).mono ?_
  rintro e w1 ⟨g, rfl, hS⟩
  have S0 := Aside0.mk hS
  clear hS
  go_wp2_with fail
  go_loopw [6, 7] (fun c i wr => c = .int .u64 (n + 1) ∧ i = .int .i64 0 ∧ St w wr g n (n + 1)) (fun _ _ _ => 0)
  case atStart => exact ⟨rfl, rfl, S0.out⟩
  case round =>
    obtain ⟨rfl, rfl, hS⟩ := hrel
    have S1 := Aside0.mk hS
    clear hS S0
    go_wp2_with fail
    refine (known_calls _).mono ?_
    rintro e w2 ⟨rfl, hb⟩
    have S2 := Aside0.mk (S1.out.below hb)
    clear hb
    go_wp2
    go_ret
    exact ⟨rfl, S2.out.2.2⟩

set_option maxHeartbeats 4000000 in
theorem creditOrder_long (n : Int) (a : Option Addr) (len cap : Nat) (w : World) (w0 : (Lit.int .u32 n).wf = true) (hl : 100 < len) (hm : len ≤ maxLen) :
    Calls Try.prog 3 #[.int .u32 n, .slice a len cap] w fun e w' => e = .returned (.bool true) ∧ Below w.heap.size w w' := by
  obtain ⟨n0, n1⟩ := lo32 w0
  unfold maxLen at hm
  clear w0
  go_enter Try.func3, Try.ntmps3
  go_wp2_with fail
  refine (new_St n 1 w w (Below.refl _ _) (by omega) (by omega) (by omega) (by omega)).mono ?_
  rintro e w1 ⟨g, rfl, hS⟩
  have S0 := Aside0.mk hS
  clear hS
  go_wp2_with fail
  refine (known_calls _).mono ?_
  rintro e w2 ⟨rfl, hb⟩
  have S2 := Aside0.mk (S0.out.below hb)
  clear hb
  go_wp2
  go_ret
  exact ⟨rfl, S2.out.2.2⟩

theorem creditOrder_walk (n : Int) (a : Option Addr) (cap : Nat) (l : List Int) (w : World) (w0 : (Lit.int .u32 n).wf = true) (hr : ReadsInt w .u8 a l.length l) (hm : l.length ≤ maxLen) (hw : ∀ x ∈ l, (Lit.int .u8 x).wf = true) (y : l.length * 1 ≤ 140737488351232) :
    Calls Try.prog 3 #[.int .u32 n, .slice a l.length cap] w fun e w' => e = .returned (.bool true) ∧ Below w.heap.size w w' := by
  by_cases hl : l.length ≤ 100
  · cases a with
    | none =>
      have h0 : l.length = 0 := by
        rcases Nat.eq_zero_or_pos l.length with h | h
        · exact h
        · obtain ⟨_, h, _⟩ := hr.2.2 h; cases h
      rw [h0]
      exact creditOrder_none n cap w w0
    | some ad => exact creditOrder_some n ad cap l w w0 hr hl hw
  · exact creditOrder_long n a l.length cap w w0 (by omega) hm
end Go.Proofs.Ytcefanjnalbihaa.Own
