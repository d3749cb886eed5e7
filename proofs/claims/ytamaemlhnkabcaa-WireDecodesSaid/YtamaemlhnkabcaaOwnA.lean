/- The walks of crc's functions: a register at a block is shifted, takes a byte; Sum of any bytes that are read is their check. -/
import Derived.Test.YtamaemlhnkabcaaPWireApartx0
import Derived.Test.YtamaemlhnkabcaaOwnCrc
import Derived.Laws.BitsAllLaws
namespace Go.Proofs.Ytamaemlhnkabcaa.Own
open Go.RowKit Go.Proofs.Ytamaemlhnkabcaa.Crc Go.Proofs.YtamaemlhnkabcaaW.PrintWords Go.Proofs.YtamaemlhnkabcaaW.PrintLast Go.Proofs.YtamaemlhnkabcaaW.PrintMore
set_option linter.unusedVariables false
set_option linter.unusedSimpArgs false

theorem w16 (n : Int) : IntKind.u16.wrap n = n % 65536 := by simp [IntKind.wrap, IntKind.bits, IntKind.signed]
theorem w8 (n : Int) : IntKind.u8.wrap n = n % 256 := by simp [IntKind.wrap, IntKind.bits, IntKind.signed]
theorem w32 (n : Int) : IntKind.u32.wrap n = n % 4294967296 := by simp [IntKind.wrap, IntKind.bits, IntKind.signed]
theorem lo8 {a : Int} (h : (Lit.int .u8 a).wf = true) : 0 ≤ a ∧ a ≤ 255 := by
  simp [Lit.wf, IntKind.min, IntKind.max, IntKind.bits, IntKind.signed] at h; omega
theorem lo16 {a : Int} (h : (Lit.int .u16 a).wf = true) : 0 ≤ a ∧ a ≤ 65535 := by
  simp [Lit.wf, IntKind.min, IntKind.max, IntKind.bits, IntKind.signed] at h; omega
theorem lo32 {a : Int} (h : (Lit.int .u32 a).wf = true) : 0 ≤ a ∧ a ≤ 4294967295 := by
  simp [Lit.wf, IntKind.min, IntKind.max, IntKind.bits, IntKind.signed] at h; omega

/-- The bytes of a list of whole numbers. -/
def nat (l : List Int) : List Nat := l.map Int.toNat
def crcI (l : List Int) : Int := (crc (nat l) : Nat)
/-- All are bytes. -/
def Oct (l : List Int) : Prop := ∀ x ∈ l, (Lit.int .u8 x).wf = true
theorem Oct.bytes {l : List Int} (h : Oct l) : Bytes (nat l) := by
  intro x hx
  obtain ⟨y, hy, rfl⟩ := List.mem_map.1 hx
  have := lo8 (h y hy)
  omega
theorem Oct.getD {l : List Int} (h : Oct l) (k : Nat) : 0 ≤ l.getD k 0 ∧ l.getD k 0 ≤ 255 := by
  rw [List.getD_eq_getElem?_getD]
  by_cases hk : k < l.length
  · rw [List.getElem?_eq_getElem hk]
    exact lo8 (h _ (List.getElem_mem hk))
  · rw [List.getElem?_eq_none (by omega)]
    simp
theorem crcI_range {l : List Int} (h : Oct l) : 0 ≤ crcI l ∧ crcI l ≤ 65535 := by
  have := run_lt (r := 65535) (by omega) h.bytes
  unfold crcI crc
  omega

/-- A register that holds r lies at block g, which the call laid; what lay in w0 is as it was. -/
def Reg (w0 w : World) (g : Nat) (r : Nat) : Prop := w.heap[g]? = some (.cells #[.int .u16 (r : Int)] 50 (0, 0)) ∧ w0.heap.size ≤ g ∧ Below w0.heap.size w0 w
theorem Reg.drewN {w0 w : World} {g r : Nat} (h : Reg w0 w g r) (m : Nat) : Reg w0 (w.drewN m) g r := ⟨h.1, h.2.1, pw_below_drewN h.2.2 m⟩
theorem Reg.set {w0 w : World} {g r : Nat} (h : Reg w0 w g r) (q : Nat) (x : Int) (hx : x = q) : Reg w0 (w.setCell ⟨g, 0, none⟩ (.int .u16 x)) g q := by
  subst hx
  exact ⟨by simpa using blk_set h.1 0 (.int .u16 (q : Int)), h.2.1, h.2.2.setCell h.2.1 _⟩
theorem Reg.cell {w0 w : World} {g r : Nat} (h : Reg w0 w g r) : w.cell? ⟨g, 0, none⟩ = some (.int .u16 (r : Int)) := (blk_cell h.1 0).trans rfl
theorem Reg.free {w0 w : World} {g r : Nat} (h : Reg w0 w g r) : w.frozen? ⟨g, 0, none⟩ = false := blk_frozen h.1 0

theorem and_top {r : Nat} (h : r < 65536) : bits .and .u16 (r : Int) 32768 = if 32768 ≤ r then 32768 else 0 := by
  rw [show (32768 : Int) = ((32768 : Nat) : Int) from rfl, u16_and_nat r 32768 h (by omega)]
  by_cases c : 32768 ≤ r
  · rw [if_pos c]
    congr 1
    apply Nat.eq_of_testBit_eq
    intro i
    rw [Nat.testBit_and, show (32768 : Nat) = 2 ^ 15 from rfl, Nat.testBit_two_pow]
    by_cases hi : 15 = i
    · subst hi; simp [(top_iff h).1 c]
    · simp [hi]
  · rw [if_neg c]
    have : r &&& 32768 = 0 := by
      apply Nat.eq_of_testBit_eq
      intro i
      rw [Nat.testBit_and, show (32768 : Nat) = 2 ^ 15 from rfl, Nat.testBit_two_pow]
      by_cases hi : 15 = i
      · subst hi
        have : r.testBit 15 = false := by
          rcases hb : r.testBit 15 with _ | _
          · rfl
          · exact absurd ((top_iff h).2 hb) c
        simp [this]
      · simp [hi]
    rw [this]; rfl
theorem sh_big {r : Nat} (h : r < 65536) (c : 32768 ≤ r) : bits .xor .u16 (IntKind.u16.wrap ((r : Int) * 2)) 4129 = ((sh r : Nat) : Int) := by
  rw [w16, show (r : Int) * 2 % 65536 = ((r * 2 % 65536 : Nat) : Int) by omega, show (4129 : Int) = ((4129 : Nat) : Int) from rfl, u16_xor_nat _ _ (by omega) (by omega)]
  unfold sh
  rw [if_pos c]
theorem sh_small {r : Nat} (c : ¬ 32768 ≤ r) : IntKind.u16.wrap ((r : Int) * 2) = ((sh r : Nat) : Int) := by
  rw [w16]
  unfold sh
  rw [if_neg c]
  omega

set_option maxHeartbeats 2000000 in
theorem shift_calls (g r : Nat) (w0 w : World) (s : Reg w0 w g r) (h : r < 65536) :
    Calls Try.prog 27 #[.pointer (some ⟨g, 0, none⟩)] w fun e w' => e = .returned (.tuple #[]) ∧ Reg w0 w' g (sh r) := by
  have S := Aside0.mk s
  have HL := Aside0.mk h
  have hc := s.cell
  have hf := s.free
  clear s
  by_cases c : 32768 ≤ r
  · have e1 : (bits .and .u16 (r : Int) 32768 != 0) = true := by rw [and_top h, if_pos c]; rfl
    have E2 := Aside0.mk (sh_big h c)
    clear c h
    go_enter Try.func27, Try.ntmps27
    go_wp2
    go_end0
    exact ⟨rfl, (S.out.set (r * 2 % 65536) _ (by rw [w16]; omega)).set _ _ E2.out⟩
  · have e1 : (bits .and .u16 (r : Int) 32768 != 0) = false := by rw [and_top h, if_neg c]; rfl
    have E2 := Aside0.mk (sh_small c)
    clear c h
    go_enter Try.func27, Try.ntmps27
    go_wp2
    go_end0
    exact ⟨rfl, S.out.set _ _ E2.out⟩

set_option maxHeartbeats 2000000 in
theorem take_calls (g r : Nat) (c : Nat) (w0 w : World) (s : Reg w0 w g r) (h : r < 65536) (hc : c < 256) :
    Calls Try.prog 26 #[.pointer (some ⟨g, 0, none⟩), .int .u8 (c : Int)] w fun e w' => e = .returned (.tuple #[]) ∧ Reg w0 w' g (tk r c) := by
  have S := Aside0.mk s
  have hl := s.cell
  have hf := s.free
  have HX : Aside0 (bits .xor .u16 (r : Int) ((c : Int) * 256) = ((shn 0 (r ^^^ c * 256) : Nat) : Int)) := Aside0.mk (by
    have := u16_xor_nat r (c * 256) h (byte_lt hc)
    rw [Int.natCast_mul] at this
    exact this)
  have HL := Aside0.mk (xor_lt h (byte_lt hc))
  have c0 : 0 ≤ (c : Int) := by omega
  have c1 : (c : Int) ≤ 255 := by omega
  clear s h hc
  go_enter Try.func26, Try.ntmps26
  go_wp2_with fail
  go_loopw [12] (fun i wr => ∃ k : Nat, k ≤ 8 ∧ i = .int .i64 k ∧ Reg w0 wr g (shn k (r ^^^ c * 256))) (fun i _ => 8 - (intOf i).toNat)
  case atStart => exact ⟨0, by omega, rfl, S.out.set _ _ HX.out⟩
  case round =>
    obtain ⟨k, hk, rfl, hS⟩ := hrel
    have S1 := Aside0.mk hS
    clear hS S hl hf
    by_cases hlt : k < 8
    · go_wp2_with fail
      refine (shift_calls g _ w0 _ S1.out (shn_lt k HL.out)).mono ?_
      rintro e w2 ⟨rfl, hS⟩
      have S2 := Aside0.mk hS
      clear hS
      go_wp2
      go_roundw
      case rel => exact ⟨k + 1, by omega, by go_num, S2.out⟩
      case measure => simp [intOf]; omega
    · obtain rfl : k = 8 := by omega
      go_wp2
      go_end0
      exact ⟨rfl, S1.out⟩

theorem nat_take_succ (l : List Int) (k : Nat) (hk : k < l.length) : nat (l.take (k + 1)) = nat (l.take k) ++ [(l.getD k 0).toNat] := by
  unfold nat
  rw [List.take_succ_eq_append_getElem hk, List.map_append, List.getD_eq_getElem?_getD, List.getElem?_eq_getElem hk]
  rfl
theorem run_snoc (r : Nat) (l : List Int) (k : Nat) (hk : k < l.length) : run r (nat (l.take (k + 1))) = tk (run r (nat (l.take k))) (l.getD k 0).toNat := by
  rw [nat_take_succ l k hk, run_append, run_cons, run_nil]
theorem Oct.take {l : List Int} (h : Oct l) (k : Nat) : Oct (l.take k) := fun x hx => h x (List.mem_of_mem_take hx)

set_option maxHeartbeats 4000000 in
set_option maxRecDepth 100000 in
theorem sum_some (ad : Addr) (cap : Nat) (l : List Int) (w : World) (hr : ReadsInt w .u8 (some ad) l.length l) (ho : Oct l) :
    Calls Try.prog 23 #[.slice (some ad) l.length cap] w fun e w' => e = .returned (.int .u16 (crcI l)) ∧ Below w.heap.size w w' := by
  have HR := Aside0.mk hr
  have HO := Aside0.mk ho
  have hm := hr.2.1
  clear hr ho
  go_enter Try.func23, Try.ntmps23
  go_wp2_with fail
  go_loopw [8] (fun i wr => ∃ k : Nat, k ≤ l.length ∧ i = .int .i64 k ∧ Reg w wr w.heap.size (run 65535 (nat (l.take k)))) (fun i _ => l.length - (intOf i).toNat)
  case atStart => exact ⟨0, by omega, rfl, by
    rw [show nat (l.take 0) = [] from rfl, run_nil]
    refine ⟨?_, Nat.le_refl _, ?_⟩
    · first | exact blk_new _ _ | (simpa using blk_set (blk_new w (.cells #[.int .u16 0] 50)) 0 (.int .u16 65535))
    · first | exact below_alloc (Below.refl _ _) _ | exact (below_alloc (Below.refl _ _) _).setCell (Nat.le_refl _) _⟩
  case round =>
    obtain ⟨k, hk, rfl, hS⟩ := hrel
    have S1 := Aside0.mk hS
    clear hS
    by_cases hlt : k < l.length
    · obtain ⟨ad', e, hcs⟩ := HR.out.2.2 (by omega)
      obtain rfl := Option.some.inj e
      have hz := pw_cell_below S1.out.2.2 (hcs k hlt)
      have hb := HO.out.getD k
      have SN := Aside0.mk (run_snoc 65535 l k hlt)
      clear hcs
      obtain ⟨z, rz⟩ : ∃ z : Nat, l.getD k 0 = (z : Int) := ⟨(l.getD k 0).toNat, by omega⟩
      rw [rz] at hz hb SN
      have hzl : z < 256 := by omega
      clear rz hb
      go_wp2_with fail
      refine (take_calls w.heap.size _ z w _ S1.out (run_lt (by omega) (HO.out.take k).bytes) hzl).mono ?_
      rintro e w2 ⟨rfl, hS⟩
      have S2 := Aside0.mk hS
      clear hS
      go_wp2
      go_roundw
      case rel => exact ⟨k + 1, by omega, by go_num, by rw [SN.out, Int.toNat_natCast]; exact S2.out⟩
      case measure => simp [intOf]; omega
    · have hc := S1.out.cell
      go_wp2
      go_ret
      exact ⟨by rw [List.take_of_length_le (by omega)]; rfl, S1.out.2.2⟩

set_option maxHeartbeats 2000000 in
theorem sum_none (cap : Nat) (w : World) :
    Calls Try.prog 23 #[.slice none 0 cap] w fun e w' => e = .returned (.int .u16 65535) ∧ Below w.heap.size w w' := by
  go_enter Try.func23, Try.ntmps23
  go_wp2_with fail
  go_loopw [8] (fun i wr => i = .int .i64 0 ∧ Reg w wr w.heap.size 65535) (fun _ _ => 0)
  case atStart => exact ⟨rfl, by
    refine ⟨?_, Nat.le_refl _, ?_⟩
    · first | exact blk_new _ _ | (simpa using blk_set (blk_new w (.cells #[.int .u16 0] 50)) 0 (.int .u16 65535))
    · first | exact below_alloc (Below.refl _ _) _ | exact (below_alloc (Below.refl _ _) _).setCell (Nat.le_refl _) _⟩
  case round =>
    obtain ⟨rfl, hS⟩ := hrel
    have S1 := Aside0.mk hS
    have hc := hS.cell
    clear hS
    go_wp2
    go_ret
    exact ⟨rfl, S1.out.2.2⟩

/-- Sum of any bytes that are read is their check. -/
theorem sum_calls (a : Option Addr) (cap : Nat) (l : List Int) (w : World) (hr : ReadsInt w .u8 a l.length l) (ho : Oct l) :
    Calls Try.prog 23 #[.slice a l.length cap] w fun e w' => e = .returned (.int .u16 (crcI l)) ∧ Below w.heap.size w w' := by
  cases a with
  | some ad => exact sum_some ad cap l w hr ho
  | none =>
    have h0 : l.length = 0 := by
      rcases Nat.eq_zero_or_pos l.length with h | h
      · exact h
      · obtain ⟨_, h, _⟩ := hr.2.2 h; cases h
    obtain rfl := List.eq_nil_of_length_eq_zero h0
    exact sum_none cap w
end Go.Proofs.Ytamaemlhnkabcaa.Own
