/- The walk of CrcTwo. -/
import Derived.Test.YtckgiilloahcjaaOwnD
namespace Go.Proofs.Ytckgiilloahcjaa.Own
open Go.RowKit Go.Proofs.Ytckgiilloahcjaa.Crc Go.Proofs.YtckgiilloahcjaaW.PrintWords Go.Proofs.YtckgiilloahcjaaW.PrintLast Go.Proofs.YtckgiilloahcjaaW.PrintMore
set_option linter.unusedVariables false
set_option linter.unusedSimpArgs false

theorem two_eq {l : List Int} (ho : Oct l) {a b : Int} (a0 : 0 ≤ a) (a1 : a ≤ 65535) (b0 : 0 ≤ b) (b1 : b ≤ 65535) : ((crcI (l ++ [a / 256, a % 256]) == crcI (l ++ [b / 256, b % 256])) == (a == b)) = true := by
  have key : crcI (l ++ [a / 256, a % 256]) = crcI (l ++ [b / 256, b % 256]) ↔ a = b := by
    unfold crcI
    rw [nat_word a0, nat_word b0]
    have h := crc_word_iff ho.bytes (a := a.toNat) (b := b.toNat) (by omega) (by omega)
    constructor
    · intro k
      have := h.1 (by omega)
      omega
    · intro k; rw [k]
  by_cases h : a = b
  · subst h; simp
  · have : crcI (l ++ [a / 256, a % 256]) ≠ crcI (l ++ [b / 256, b % 256]) := fun k => h (key.1 k)
    rw [beq_eq_false_iff_ne.mpr this, beq_eq_false_iff_ne.mpr h]; rfl

theorem keep_x {w0 w3 w4 w5 : World} {b1 : Nat} {x v3 : Value} {lx l : List Int} {o : Obj} (RX : Row w0 w3 b1 x lx) (RX2 : Row w0 w4 b1 x lx) (RB : Row w0 w4 w3.heap.size v3 l) (g4 : (w4.alloc o).grownBy w5 v3.ownBlock) (hb : Below w0.heap.size w0 w5) : Row w0 w5 b1 x lx :=
  (RX2.alloc o).other g4 (fun k hk hx => by have p1 := RB.block_ge k hk; have p2 := RX.block_lt k hx; omega) hb

set_option maxHeartbeats 4000000 in
set_option maxRecDepth 100000 in
theorem crcTwo_walk (f : Option Addr) (cap : Nat) (l : List Int) (a b : Int) (w : World) (hr : ReadsInt w .u8 f l.length l) (hm : l.length ≤ maxLen) (ho : ∀ x ∈ l, (Lit.int .u8 x).wf = true) (y : l.length * 1 ≤ 140737488351232) (hn : f = none → cap = 0) (w1 : (Lit.int .u16 a).wf = true) (w2 : (Lit.int .u16 b).wf = true) :
    Calls Try.prog 5 #[.slice f l.length cap, .int .u16 a, .int .u16 b] w fun e w' => e = .returned (.bool true) ∧ Below w.heap.size w w' := by
  have HR := Aside0.mk hr
  have HO : Aside0 (Oct l) := Aside0.mk ho
  have HN := Aside0.mk hn
  obtain ⟨a0, a1⟩ := lo16 w1
  obtain ⟨b0, b1⟩ := lo16 w2
  unfold maxLen at hm
  clear hr ho hn w1 w2
  by_cases hl : l.length ≤ 1000
  · have E := Aside0.mk (two_eq HO.out a0 a1 b0 b1)
    have HL0 : Aside0 (([] : List Int).length + l.length ≤ 1000000) := Aside0.mk (by simp; omega)
    have HL2 : Aside0 (l.length + 2 ≤ 1000000) := Aside0.mk (by omega)
    have EA := Aside0.mk (quo_eq a0 a1)
    have EB := Aside0.mk (quo_eq b0 b1)
    have WA : Aside0 (Oct [IntKind.u16.wrap (a.tdiv 256) % 256, a % 256]) := Aside0.mk (by rw [EA.out]; exact word_oct a0 a1)
    have WB : Aside0 (Oct [IntKind.u16.wrap (b.tdiv 256) % 256, b % 256]) := Aside0.mk (by rw [EB.out]; exact word_oct b0 b1)
    go_enter Try.func5, Try.ntmps5
    go_wp2_with fail
    refine (known_calls _).mono ?_
    rintro e w1 ⟨rfl, hb⟩
    have B1 := Aside0.mk hb
    clear hb
    go_wp2_with (first | (at_builtin; have q3 := (Row.nil B1.out); have q2 := (HR.out.below B1.out); refine append_bytes rfl _ _ rfl _ _ ([] : List Int) q3 f l _ _ q2 HN.out HO.out HL0.out rfl rfl ?_; clear q2 q3; intro v1 w2 R1 g1; rw [List.nil_append] at R1; have RA := Aside0.mk R1; clear R1 g1) | (at_builtin; have q3 := (RA.out.alloc (.cells #[.int .u8 (IntKind.u16.wrap (a.tdiv 256) % 256), .int .u8 (a % 256)] 5)); have q2 := (two_reads (blk_new w2 (.cells #[.int .u8 (IntKind.u16.wrap (a.tdiv 256) % 256), .int .u8 (a % 256)] 5))); refine append_bytes rfl _ _ rfl _ _ l q3 (some ⟨w2.heap.size, 0, none⟩) [IntKind.u16.wrap (a.tdiv 256) % 256, a % 256] _ _ q2 (fun k => by cases k) WA.out HL2.out rfl rfl ?_; clear q2 q3; intro x w3 R2 g2; rw [EA.out] at R2; have RX := Aside0.mk R2; clear R2 g2) | (at_builtin; have q3 := (Row.nil RX.out.2.1); have q2 := (HR.out.below RX.out.2.1); refine append_bytes rfl _ _ rfl _ _ ([] : List Int) q3 f l _ _ q2 HN.out HO.out HL0.out rfl rfl ?_; clear q2 q3; intro v3 w4 R3 g3; rw [List.nil_append] at R3; have RB := Aside0.mk R3; have RX2 := Aside0.mk (RX.out.other g3 (fun k hk => by simp [Value.ownBlock] at hk) R3.2.1); clear R3 g3) | (at_builtin; have q3 := (RB.out.alloc (.cells #[.int .u8 (IntKind.u16.wrap (b.tdiv 256) % 256), .int .u8 (b % 256)] 5)); have q2 := (two_reads (blk_new w4 (.cells #[.int .u8 (IntKind.u16.wrap (b.tdiv 256) % 256), .int .u8 (b % 256)] 5))); refine append_bytes rfl _ _ rfl _ _ l q3 (some ⟨w4.heap.size, 0, none⟩) [IntKind.u16.wrap (b.tdiv 256) % 256, b % 256] _ _ q2 (fun k => by cases k) WB.out HL2.out rfl rfl ?_; clear q2 q3; intro y2 w5 R4 g4; rw [EB.out] at R4; have RY := Aside0.mk R4; have RX3 := Aside0.mk (keep_x RX.out RX2.out RB.out g4 R4.2.1); clear R4 g4))
    refine (sum_row _ _ _ _ _ RX3.out).mono ?_
    rintro e w6 ⟨rfl, hb⟩
    have RZ := Aside0.mk (RY.out.below hb)
    clear hb
    go_wp2_with fail
    refine (sum_row _ _ _ _ _ RZ.out).mono ?_
    rintro e w7 ⟨rfl, hb⟩
    have RQ := Aside0.mk (RZ.out.below hb)
    clear hb
    go_wp2
    go_ret
    exact ⟨ret_bool E.out, RQ.out.2.1⟩
  · have hl2 : 1000 < l.length := by omega
    clear hl
    go_enter Try.func5, Try.ntmps5
    go_wp2_with fail
    refine (known_calls _).mono ?_
    rintro e w1 ⟨rfl, hb⟩
    have B1 := Aside0.mk hb
    clear hb
    go_wp2
    go_ret
    exact ⟨rfl, B1.out⟩
end Go.Proofs.Ytckgiilloahcjaa.Own
