/- The walk of BufferOnce: for every input it returns true. -/
import Derived.Test.YtcjdokddlddlhaaOwnB
namespace Go.Proofs.Ytcjdokddlddlhaa.Own
open Go.RowKit Go.Proofs.Ytcjdokddlddlhaa.PBufferOnce Go.Proofs.YtcjdokddlddlhaaW.PrintWords Go.Proofs.YtcjdokddlddlhaaW.PrintLast Go.Proofs.YtcjdokddlddlhaaW.PrintMore
set_option linter.unusedVariables false
set_option linter.unusedSimpArgs false

/-- A byte of a slice that came in, as it is read later on. -/
theorem read_byte {w wr : World} {ad : Addr} {l : List Int} (hr : ReadsInt w .u8 (some ad) l.length l) (hw : ∀ x ∈ l, (Lit.int .u8 x).wf = true) (hb : Below w.heap.size w wr) (k : Nat) (hk : k < l.length) :
    ∃ z : Int, (0 ≤ z ∧ z ≤ 255) ∧ wr.cell? (ad.add k) = some (.int .u8 z) := by
  obtain ⟨ad', e, hc⟩ := hr.2.2 (by omega)
  obtain rfl := Option.some.inj e
  have hz : l.getD k 0 ∈ l := by
    rw [List.getD_eq_getElem?_getD, List.getElem?_eq_getElem hk]; exact List.getElem_mem hk
  exact ⟨l.getD k 0, lo8 (hw _ hz), pw_cell_below hb (hc k hk)⟩

theorem KeepBut.cell {w w1 : World} {g : Nat} (h : KeepBut w w1 g none) {p : Addr} {v : Value} (hc : w.cell? p = some v) (hp : p.block ≠ g) : w1.cell? p = some v := keep_cell h hc hp

theorem free_any (g : Nat) (x h r : Int) (w0 w : World) (s : St w0 w g x h r) (h0 : 0 ≤ h) (h1 : h ≤ 8) :
    Calls Try.prog 16 #[.pointer (some ⟨g, 0, none⟩)] w fun e w' => ∃ b h', 0 ≤ h' ∧ h' ≤ h ∧ e = .returned (.bool b) ∧ St w0 w' g x h' r ∧ KeepBut w w' g none := by
  by_cases hz : h = 0
  · subst hz
    exact (free_no g x r w0 w s).mono fun e w' ⟨he, hs, hk⟩ => ⟨false, 0, by omega, by omega, he, hs, hk⟩
  · exact (free_yes g x h r w0 w s (by omega) h1).mono fun e w' ⟨he, hs, hk⟩ => ⟨true, h - 1, by omega, by omega, he, hs, hk⟩

theorem keeps {w0 w w1 w2 w3 : World} {g : Nat} {x h r : Int} {ad : Addr} {k : Nat} {v : Value} (k1 : KeepBut w w1 g none) (k2 : KeepBut w1 w2 g none) (k3 : KeepBut w2 w3 g none) (hc : w.cell? (ad.add k) = some v) (hI : IsS46 w0 w g x h r) (hb : (ad.add k).block < w0.heap.size) : w3.cell? (ad.add k) = some v := by
  have hne : (ad.add k).block ≠ g := by have := hI.ge; omega
  exact keep_cell k3 (keep_cell k2 (keep_cell k1 hc hne) hne) hne
theorem block_lt {w : World} {ad : Addr} {l : List Int} {k : Nat} (hr : ReadsInt w .u8 (some ad) l.length l) (hk : k < l.length) : (ad.add k).block < w.heap.size := by
  obtain ⟨ad', e, hc⟩ := hr.2.2 (by omega)
  obtain rfl := Option.some.inj e
  exact World.block_lt_of_cell? w _ (hc k hk)

set_option maxHeartbeats 4000000 in
set_option maxRecDepth 100000 in
theorem bufferOnce_some (n r : Int) (ad : Addr) (cap : Nat) (l : List Int) (w : World) (w0 : (Lit.int .u32 n).wf = true) (w1 : (Lit.int .u8 r).wf = true) (hr : ReadsInt w .u8 (some ad) l.length l) (hl : l.length ≤ 200) (hw : ∀ x ∈ l, (Lit.int .u8 x).wf = true) :
    Calls Try.prog 7 #[.int .u32 n, .int .u8 r, .slice (some ad) l.length cap] w fun e w' => e = .returned (.bool true) ∧ Below w.heap.size w w' := by
  obtain ⟨n0, n1⟩ := lo32 w0
  obtain ⟨r0, r1⟩ := lo8 w1
  have HR := Aside0.mk hr
  have HW := Aside0.mk hw
  clear w0 w1 hr hw
  go_enter Try.func7, Try.ntmps7
  go_wp2_with fail
  refine (new_St n (1 + r % 8) w w (Below.refl _ _) (by omega) (by omega) (by omega) (by omega)).mono ?_
  rintro e w0 ⟨g, rfl, hS, _, _⟩
  have S0 := Aside0.mk hS
  clear hS
  go_wp2_with fail
  go_loopw [9, 10] (fun c i wr => ∃ k : Nat, ∃ X h la : Int, k ≤ l.length ∧ n ≤ X ∧ X ≤ n + 40 ∧ 0 ≤ h ∧ h ≤ 1 + r % 8 ∧ 0 ≤ la ∧ la ≤ X ∧ c = .int .u64 la ∧ i = .int .i64 k ∧ St w wr g X h (1 + r % 8)) (fun _ i _ => l.length - (intOf i).toNat)
  case atStart => exact ⟨0, n, 0, 0, by omega, by omega, by omega, by omega, by omega, by omega, by omega, rfl, rfl, S0.out⟩
  case round =>
    obtain ⟨k, X, h, la, hk, hX0, hX1, hh0, hh1, hl0, hl1, rfl, rfl, hS⟩ := hrel
    have S1 := Aside0.mk hS
    clear hS S0
    have S0 := S1
    clear S1
    by_cases hlt : k < l.length
    · obtain ⟨z, ⟨z0, z1⟩, hz⟩ := read_byte HR.out HW.out S0.out.2 k hlt
      have HZ := Aside0.mk (fun (wq : World) (hb : Below w.heap.size w wq) => read_byte HR.out HW.out hb k hlt)
      by_cases hev : z % 3 = 0
      · by_cases hs : n + z % 40 < X
        · have e3 : (z % 3 == 0) = true := by simp [hev]
          clear hev
          have c1 : decide (X ≤ n + z % 40) = false := by simp; omega
          have c2 : decide (n + z % 40 < X) = true := by simp; omega
          go_wp2_with fail
          refine (expects_calls g _ _ _ w _ S0.out).mono ?_
          rintro e w1 ⟨rfl, hS, _⟩
          have S1 := Aside0.mk hS
          clear hS
          go_wp2_with fail
          refine (limit_calls g _ _ _ w _ S1.out (by omega) (by omega) (by omega) (by omega) (by omega)).mono ?_
          rintro e w2 ⟨rfl, hS, _⟩
          have S2 := Aside0.mk hS
          clear hS
          go_wp2_with fail
          refine (come_stale g _ _ _ _ w _ S2.out (by omega) (by rw [widen_near _ (n + z % 40) _ (by omega) (by omega) (by omega) (by omega) rfl]; omega)).mono ?_
          rintro e w3 ⟨rfl, hS, _⟩
          have S3 := Aside0.mk hS
          clear hS
          have hz3 : w3.cell? (ad.add k) = some (.int .u8 z) := keeps ‹_› ‹_› ‹_› hz (S0.out.1) (by exact block_lt HR.out hlt)
          go_wp2_with fail
          refine (free_any g _ _ _ w _ S3.out (by omega) (by omega)).mono ?_
          rintro e w4 ⟨fb, h', hf0, hf1, rfl, hS, _⟩
          have S4 := Aside0.mk hS
          clear hS
          go_wp2
          go_roundw
          case rel => exact ⟨k + 1, X, h', la, by omega, by omega, by omega, by omega, by omega, by omega, by omega, rfl, by go_num, S4.out⟩
          case measure => simp [intOf]; omega
        · by_cases ho : n + z % 40 < X + (1 + r % 8 - h)
          · have e3 : (z % 3 == 0) = true := by simp [hev]
            clear hev
            have c1 : decide (X ≤ n + z % 40) = true := by simp; omega
            have c2 : decide (n + z % 40 < X) = false := by simp; omega
            have c3 : decide (n + z % 40 < X + (1 + r % 8 - h)) = true := by simp; omega
            have c4 : decide (n + z % 40 < la) = false := by simp; omega
            go_wp2_with fail
            refine (expects_calls g _ _ _ w _ S0.out).mono ?_
            rintro e w1 ⟨rfl, hS, _⟩
            have S1 := Aside0.mk hS
            clear hS
            go_wp2_with fail
            refine (limit_calls g _ _ _ w _ S1.out (by omega) (by omega) (by omega) (by omega) (by omega)).mono ?_
            rintro e w2 ⟨rfl, hS, _⟩
            have S2 := Aside0.mk hS
            clear hS
            go_wp2_with fail
            refine (come_ok (n + z % 40) g _ _ _ _ w _ S2.out (by omega) (by omega) (by omega) (by omega) (by omega) (widen_near _ _ _ (by omega) (by omega) (by omega) (by omega) rfl) (by omega) (by omega)).mono ?_
            rintro e w3 ⟨rfl, hS, _⟩
            have S3 := Aside0.mk hS
            clear hS
            have hz3 : w3.cell? (ad.add k) = some (.int .u8 z) := keeps ‹_› ‹_› ‹_› hz (S0.out.1) (by exact block_lt HR.out hlt)
            go_wp2_with fail
            refine (free_any g _ _ _ w _ S3.out (by omega) (by omega)).mono ?_
            rintro e w4 ⟨fb, h', hf0, hf1, rfl, hS, _⟩
            have S4 := Aside0.mk hS
            clear hS
            go_wp2
            go_roundw
            case rel => exact ⟨k + 1, n + z % 40 + 1, h', n + z % 40 + 1, by omega, by omega, by omega, by omega, by omega, by omega, by omega, rfl, by go_num, S4.out⟩
            case measure => simp [intOf]; omega
          · have e3 : (z % 3 == 0) = true := by simp [hev]
            clear hev
            have c1 : decide (X ≤ n + z % 40) = true := by simp; omega
            have c2 : decide (n + z % 40 < X) = false := by simp; omega
            have c3 : decide (n + z % 40 < X + (1 + r % 8 - h)) = false := by simp; omega
            go_wp2_with fail
            refine (expects_calls g _ _ _ w _ S0.out).mono ?_
            rintro e w1 ⟨rfl, hS, _⟩
            have S1 := Aside0.mk hS
            clear hS
            go_wp2_with fail
            refine (limit_calls g _ _ _ w _ S1.out (by omega) (by omega) (by omega) (by omega) (by omega)).mono ?_
            rintro e w2 ⟨rfl, hS, _⟩
            have S2 := Aside0.mk hS
            clear hS
            go_wp2_with fail
            refine (come_over g _ _ _ _ w _ S2.out (by omega) (by omega) (by omega) (by omega) (by rw [widen_near _ (n + z % 40) _ (by omega) (by omega) (by omega) (by omega) rfl]; omega)).mono ?_
            rintro e w3 ⟨rfl, hS, _⟩
            have S3 := Aside0.mk hS
            clear hS
            have hz3 : w3.cell? (ad.add k) = some (.int .u8 z) := keeps ‹_› ‹_› ‹_› hz (S0.out.1) (by exact block_lt HR.out hlt)
            go_wp2_with fail
            refine (free_any g _ _ _ w _ S3.out (by omega) (by omega)).mono ?_
            rintro e w4 ⟨fb, h', hf0, hf1, rfl, hS, _⟩
            have S4 := Aside0.mk hS
            clear hS
            go_wp2
            go_roundw
            case rel => exact ⟨k + 1, X, h', la, by omega, by omega, by omega, by omega, by omega, by omega, by omega, rfl, by go_num, S4.out⟩
            case measure => simp [intOf]; omega
      · by_cases hs : n + z % 40 < X
        · have e3 : (z % 3 == 0) = false := by simp [hev]
          clear hev
          have c1 : decide (X ≤ n + z % 40) = false := by simp; omega
          have c2 : decide (n + z % 40 < X) = true := by simp; omega
          go_wp2_with fail
          refine (expects_calls g _ _ _ w _ S0.out).mono ?_
          rintro e w1 ⟨rfl, hS, _⟩
          have S1 := Aside0.mk hS
          clear hS
          go_wp2_with fail
          refine (limit_calls g _ _ _ w _ S1.out (by omega) (by omega) (by omega) (by omega) (by omega)).mono ?_
          rintro e w2 ⟨rfl, hS, _⟩
          have S2 := Aside0.mk hS
          clear hS
          go_wp2_with fail
          refine (come_stale g _ _ _ _ w _ S2.out (by omega) (by rw [widen_near _ (n + z % 40) _ (by omega) (by omega) (by omega) (by omega) rfl]; omega)).mono ?_
          rintro e w3 ⟨rfl, hS, _⟩
          have S3 := Aside0.mk hS
          clear hS
          have hz3 : w3.cell? (ad.add k) = some (.int .u8 z) := keeps ‹_› ‹_› ‹_› hz (S0.out.1) (by exact block_lt HR.out hlt)
          go_wp2
          go_roundw
          case rel => exact ⟨k + 1, X, h, la, by omega, by omega, by omega, by omega, by omega, by omega, by omega, rfl, by go_num, S3.out⟩
          case measure => simp [intOf]; omega
        · by_cases ho : n + z % 40 < X + (1 + r % 8 - h)
          · have e3 : (z % 3 == 0) = false := by simp [hev]
            clear hev
            have c1 : decide (X ≤ n + z % 40) = true := by simp; omega
            have c2 : decide (n + z % 40 < X) = false := by simp; omega
            have c3 : decide (n + z % 40 < X + (1 + r % 8 - h)) = true := by simp; omega
            have c4 : decide (n + z % 40 < la) = false := by simp; omega
            go_wp2_with fail
            refine (expects_calls g _ _ _ w _ S0.out).mono ?_
            rintro e w1 ⟨rfl, hS, _⟩
            have S1 := Aside0.mk hS
            clear hS
            go_wp2_with fail
            refine (limit_calls g _ _ _ w _ S1.out (by omega) (by omega) (by omega) (by omega) (by omega)).mono ?_
            rintro e w2 ⟨rfl, hS, _⟩
            have S2 := Aside0.mk hS
            clear hS
            go_wp2_with fail
            refine (come_ok (n + z % 40) g _ _ _ _ w _ S2.out (by omega) (by omega) (by omega) (by omega) (by omega) (widen_near _ _ _ (by omega) (by omega) (by omega) (by omega) rfl) (by omega) (by omega)).mono ?_
            rintro e w3 ⟨rfl, hS, _⟩
            have S3 := Aside0.mk hS
            clear hS
            have hz3 : w3.cell? (ad.add k) = some (.int .u8 z) := keeps ‹_› ‹_› ‹_› hz (S0.out.1) (by exact block_lt HR.out hlt)
            go_wp2
            go_roundw
            case rel => exact ⟨k + 1, n + z % 40 + 1, h + 1, n + z % 40 + 1, by omega, by omega, by omega, by omega, by omega, by omega, by omega, rfl, by go_num, S3.out⟩
            case measure => simp [intOf]; omega
          · have e3 : (z % 3 == 0) = false := by simp [hev]
            clear hev
            have c1 : decide (X ≤ n + z % 40) = true := by simp; omega
            have c2 : decide (n + z % 40 < X) = false := by simp; omega
            have c3 : decide (n + z % 40 < X + (1 + r % 8 - h)) = false := by simp; omega
            go_wp2_with fail
            refine (expects_calls g _ _ _ w _ S0.out).mono ?_
            rintro e w1 ⟨rfl, hS, _⟩
            have S1 := Aside0.mk hS
            clear hS
            go_wp2_with fail
            refine (limit_calls g _ _ _ w _ S1.out (by omega) (by omega) (by omega) (by omega) (by omega)).mono ?_
            rintro e w2 ⟨rfl, hS, _⟩
            have S2 := Aside0.mk hS
            clear hS
            go_wp2_with fail
            refine (come_over g _ _ _ _ w _ S2.out (by omega) (by omega) (by omega) (by omega) (by rw [widen_near _ (n + z % 40) _ (by omega) (by omega) (by omega) (by omega) rfl]; omega)).mono ?_
            rintro e w3 ⟨rfl, hS, _⟩
            have S3 := Aside0.mk hS
            clear hS
            have hz3 : w3.cell? (ad.add k) = some (.int .u8 z) := keeps ‹_› ‹_› ‹_› hz (S0.out.1) (by exact block_lt HR.out hlt)
            go_wp2
            go_roundw
            case rel => exact ⟨k + 1, X, h, la, by omega, by omega, by omega, by omega, by omega, by omega, by omega, rfl, by go_num, S3.out⟩
            case measure => simp [intOf]; omega
    · go_wp2_with fail
      refine (known_calls _).mono ?_
      rintro e w1 ⟨rfl, hb⟩
      have S1 := Aside0.mk (S0.out.below hb)
      clear hb
      go_wp2
      go_ret
      exact ⟨rfl, S1.out.2⟩

set_option maxHeartbeats 4000000 in
set_option maxRecDepth 100000 in
theorem bufferOnce_none (n r : Int) (cap : Nat) (w : World) (w0 : (Lit.int .u32 n).wf = true) (w1 : (Lit.int .u8 r).wf = true) :
    Calls Try.prog 7 #[.int .u32 n, .int .u8 r, .slice none 0 cap] w fun e w' => e = .returned (.bool true) ∧ Below w.heap.size w w' := by
  obtain ⟨n0, n1⟩ := lo32 w0
  obtain ⟨r0, r1⟩ := lo8 w1
  clear w0 w1
  go_enter Try.func7, Try.ntmps7
  go_wp2_with fail
  refine (new_St n (1 + r % 8) w w (Below.refl _ _) (by omega) (by omega) (by omega) (by omega)).mono ?_
  rintro e w0 ⟨g, rfl, hS, _, _⟩
  have S0 := Aside0.mk hS
  clear hS
  go_wp2_with fail
  go_loopw [9, 10] (fun c i wr => c = .int .u64 0 ∧ i = .int .i64 0 ∧ St w wr g n 0 (1 + r % 8)) (fun _ _ _ => 0)
  case atStart => exact ⟨rfl, rfl, S0.out⟩
  case round =>
    obtain ⟨rfl, rfl, hS⟩ := hrel
    clear S0
    have S0 := Aside0.mk hS
    clear hS
    go_wp2_with fail
    refine (known_calls _).mono ?_
    rintro e w1 ⟨rfl, hb⟩
    have S1 := Aside0.mk (S0.out.below hb)
    clear hb
    go_wp2
    go_ret
    exact ⟨rfl, S1.out.2⟩

set_option maxHeartbeats 4000000 in
set_option maxRecDepth 100000 in
theorem bufferOnce_long (n r : Int) (a : Option Addr) (len cap : Nat) (w : World) (w0 : (Lit.int .u32 n).wf = true) (w1 : (Lit.int .u8 r).wf = true) (hl : 200 < len) (hm : len ≤ maxLen) :
    Calls Try.prog 7 #[.int .u32 n, .int .u8 r, .slice a len cap] w fun e w' => e = .returned (.bool true) ∧ Below w.heap.size w w' := by
  obtain ⟨n0, n1⟩ := lo32 w0
  obtain ⟨r0, r1⟩ := lo8 w1
  unfold maxLen at hm
  clear w0 w1
  go_enter Try.func7, Try.ntmps7
  go_wp2_with fail
  refine (new_St n (1 + r % 8) w w (Below.refl _ _) (by omega) (by omega) (by omega) (by omega)).mono ?_
  rintro e w0 ⟨g, rfl, hS, _, _⟩
  have S0 := Aside0.mk hS
  clear hS
  go_wp2_with fail
  refine (known_calls _).mono ?_
  rintro e w1 ⟨rfl, hb⟩
  have S1 := Aside0.mk (S0.out.below hb)
  clear hb
  go_wp2
  go_ret
  exact ⟨rfl, S1.out.2⟩

theorem bufferOnce_walk (n r : Int) (a : Option Addr) (cap : Nat) (l : List Int) (w : World) (w0 : (Lit.int .u32 n).wf = true) (w1 : (Lit.int .u8 r).wf = true) (hr : ReadsInt w .u8 a l.length l) (hm : l.length ≤ maxLen) (hw : ∀ x ∈ l, (Lit.int .u8 x).wf = true) (y : l.length * 1 ≤ 140737488351232) :
    Calls Try.prog 7 #[.int .u32 n, .int .u8 r, .slice a l.length cap] w fun e w' => e = .returned (.bool true) ∧ Below w.heap.size w w' := by
  by_cases hl : l.length ≤ 200
  · cases a with
    | none =>
      have h0 : l.length = 0 := by
        rcases Nat.eq_zero_or_pos l.length with h | h
        · exact h
        · obtain ⟨_, h, _⟩ := hr.2.2 h; cases h
      rw [h0]
      exact bufferOnce_none n r cap w w0 w1
    | some ad => exact bufferOnce_some n r ad cap l w w0 w1 hr hl hw
  · exact bufferOnce_long n r a l.length cap w w0 w1 (by omega) hm
end Go.Proofs.Ytcjdokddlddlhaa.Own
