/- The walk of CrcPairs. -/
import Derived.Test.YtckgiilloahcjaaOwnF
namespace Go.Proofs.Ytckgiilloahcjaa.Own
open Go.RowKit Go.Proofs.Ytckgiilloahcjaa.Crc Go.Proofs.YtckgiilloahcjaaW.PrintWords Go.Proofs.YtckgiilloahcjaaW.PrintLast Go.Proofs.YtckgiilloahcjaaW.PrintMore
set_option linter.unusedVariables false
set_option linter.unusedSimpArgs false

set_option maxHeartbeats 4000000 in
set_option maxRecDepth 100000 in
theorem pairsAx (f : Option Addr) (cap : Nat) (l : List Int) (a x z : Int) (w : World) (hr : ReadsInt w .u8 f l.length l) (ho : Oct l) (hn : f = none → cap = 0) (x0 : 0 ≤ x) (x1 : x ≤ 255) (z0 : 0 ≤ z) (z1 : z ≤ 255) (hxz : 0 < x ∨ 0 < z) (hl : l.length ≤ 1000) (hk : 0 + 1 < l.length) (ha : a < 0) (hx : 0 < x) :
    Calls Try.prog 8 #[.slice f l.length cap, .int .i64 a, .int .u8 x, .int .u8 z] w fun e w' => e = .returned (.bool true) ∧ Below w.heap.size w w' := by
  have HR := Aside0.mk hr
  have HO : Aside0 (Oct l) := Aside0.mk ho
  have HN := Aside0.mk hn
  have hl0 : 0 < l.length := by omega
  have HL0 : Aside0 (([] : List Int).length + l.length ≤ 1000000) := Aside0.mk (by simp; omega)
  have hb := HO.out.getD 0
  have hb1 := HO.out.getD (0 + 1)
  have E := Aside0.mk (pairs_ne HO.out 0 hk x z x0 x1 z0 z1 hxz)
  obtain ⟨p, ep⟩ : ∃ p, l.getD 0 0 = p := ⟨_, rfl⟩
  obtain ⟨q, eq⟩ : ∃ q, l.getD (0 + 1) 0 = q := ⟨_, rfl⟩
  rw [ep] at hb E
  rw [eq] at hb1 E
  have EP := Aside0.mk ep
  have EQ := Aside0.mk eq
  clear ep eq
  have e2 : (x == 0) = false := beq_eq_false_iff_ne.mpr (by omega)
  clear hx
  have e0 : ((l.length : Int) == 0) = false := beq_eq_false_iff_ne.mpr (by omega)
  have e1 : decide ((l.length : Int) < 2) = false := by simp; omega
  have hki : (0 : Int) < l.length := by omega
  have hkj : (1 : Int) < l.length := by omega
  have hkm : 0 < (l.length : Int) - 1 := by omega
  have HK := Aside0.mk hk
  have ha' : decide (a < 0) = true := by simp; omega
  clear hr ho hn hk
  have YR := Aside0.mk (xor8_range hb.1 hb.2 x0 x1)
  have ZR := Aside0.mk (xor8_range hb1.1 hb1.2 z0 z1)
  clear hb hb1
  go_enter Try.func8, Try.ntmps8
  go_wp2_with fail
  refine (known_calls _).mono ?_
  rintro e w1 ⟨rfl, hb⟩
  have B1 := Aside0.mk hb
  clear hb
  go_wp2_with (first | (at_builtin; have q3 := (Row.nil B1.out); have q2 := (HR.out.below B1.out); refine append_bytes rfl _ _ rfl _ _ ([] : List Int) q3 f l _ _ q2 HN.out HO.out HL0.out rfl rfl ?_; clear q2 q3; intro v1 w2 R1 g1; rw [List.nil_append] at R1; obtain ⟨g, cp, cur, rfl, hh, hg, hll, hcur⟩ := R1.block hl0; have hc0 : w2.cell? ⟨g, 0, none⟩ = some (.int .u8 p) := (blk_cell hh 0).trans (by rw [hcur 0 (by have := HK.out; omega), EP.out]); have hf0 := blk_frozen hh 0; have hc1 : w2.cell? ⟨g, 0 + 1, none⟩ = some (.int .u8 q) := (blk_cell hh (0 + 1)).trans (by rw [hcur (0 + 1) HK.out, EQ.out]); have hf1 := blk_frozen hh (0 + 1); simp only [Nat.zero_add] at hc1 hf1; have HH := Aside0.mk hh; have HC := Aside0.mk hcur; have RA := Aside0.mk R1; have HG := Aside0.mk hg; clear hh hcur R1 g1 hg hll))
  refine (sum_calls f cap l _ (HR.out.below ((RA.out.2.1.setCell HG.out _).setCell HG.out _)) HO.out).mono ?_
  rintro e w3 ⟨rfl, hb⟩
  have B3 := Aside0.mk hb
  clear hb
  have hs2 := Aside0.mk (sum_calls (some ⟨g, 0, none⟩) cp ((l.set 0 (bits .xor .u8 p x)).set (0 + 1) (bits .xor .u8 q z)) w3 (ReadsInt.below (reads_block (blk_set (blk_set HH.out 0 (.int .u8 (bits .xor .u8 p x))) (0 + 1) (.int .u8 (bits .xor .u8 q z))) ((l.set 0 (bits .xor .u8 p x)).set (0 + 1) (bits .xor .u8 q z)) (by simp only [List.length_set, List.length_set]; omega) (cells_set (cells_set HC.out 0 _ (by have := HK.out; omega)) (0 + 1) _ (by rw [List.length_set]; exact HK.out))) B3.out) ((HO.out.set 0 _ YR.out.1 YR.out.2).set (0 + 1) _ ZR.out.1 ZR.out.2))
  rw [List.length_set, List.length_set] at hs2
  go_wp2_with fail
  refine hs2.out.mono ?_
  rintro e w4 ⟨rfl, hb⟩
  have B4 := Aside0.mk (below_then (below_then ((RA.out.2.1.setCell HG.out _).setCell HG.out _) (Nat.le_trans RA.out.2.1.size (Nat.le_of_eq (by simp))) B3.out) (Nat.le_trans (Nat.le_trans RA.out.2.1.size (Nat.le_of_eq (by simp))) B3.out.size) hb)
  clear hb
  go_wp2
  go_ret
  exact ⟨ret_bool E.out, B4.out⟩

set_option maxHeartbeats 4000000 in
set_option maxRecDepth 100000 in
theorem pairsBx (f : Option Addr) (cap : Nat) (l : List Int) (a x z : Int) (w : World) (hr : ReadsInt w .u8 f l.length l) (ho : Oct l) (hn : f = none → cap = 0) (x0 : 0 ≤ x) (x1 : x ≤ 255) (z0 : 0 ≤ z) (z1 : z ≤ 255) (hxz : 0 < x ∨ 0 < z) (hl : l.length ≤ 1000) (k : Nat) (hk : k + 1 < l.length) (ha : 0 ≤ a) (ek : a % ((l.length : Int) - 1) = k) (hx : 0 < x) :
    Calls Try.prog 8 #[.slice f l.length cap, .int .i64 a, .int .u8 x, .int .u8 z] w fun e w' => e = .returned (.bool true) ∧ Below w.heap.size w w' := by
  have HR := Aside0.mk hr
  have HO : Aside0 (Oct l) := Aside0.mk ho
  have HN := Aside0.mk hn
  have hl0 : 0 < l.length := by omega
  have HL0 : Aside0 (([] : List Int).length + l.length ≤ 1000000) := Aside0.mk (by simp; omega)
  have hb := HO.out.getD k
  have hb1 := HO.out.getD (k + 1)
  have E := Aside0.mk (pairs_ne HO.out k hk x z x0 x1 z0 z1 hxz)
  obtain ⟨p, ep⟩ : ∃ p, l.getD k 0 = p := ⟨_, rfl⟩
  obtain ⟨q, eq⟩ : ∃ q, l.getD (k + 1) 0 = q := ⟨_, rfl⟩
  rw [ep] at hb E
  rw [eq] at hb1 E
  have EP := Aside0.mk ep
  have EQ := Aside0.mk eq
  clear ep eq
  have e2 : (x == 0) = false := beq_eq_false_iff_ne.mpr (by omega)
  clear hx
  have e0 : ((l.length : Int) == 0) = false := beq_eq_false_iff_ne.mpr (by omega)
  have e1 : decide ((l.length : Int) < 2) = false := by simp; omega
  have hki : ((k : Nat) : Int) < l.length := by omega
  have hkj : ((k : Int) + 1) < l.length := by omega
  have hkm : 0 < (l.length : Int) - 1 := by omega
  have HK := Aside0.mk hk
  have ha' : decide (a < 0) = false := by simp; omega
  clear hr ho hn hk
  have YR := Aside0.mk (xor8_range hb.1 hb.2 x0 x1)
  have ZR := Aside0.mk (xor8_range hb1.1 hb1.2 z0 z1)
  clear hb hb1
  go_enter Try.func8, Try.ntmps8
  go_wp2_with fail
  refine (known_calls _).mono ?_
  rintro e w1 ⟨rfl, hb⟩
  have B1 := Aside0.mk hb
  clear hb
  go_wp2_with (first | (at_builtin; have q3 := (Row.nil B1.out); have q2 := (HR.out.below B1.out); refine append_bytes rfl _ _ rfl _ _ ([] : List Int) q3 f l _ _ q2 HN.out HO.out HL0.out rfl rfl ?_; clear q2 q3; intro v1 w2 R1 g1; rw [List.nil_append] at R1; obtain ⟨g, cp, cur, rfl, hh, hg, hll, hcur⟩ := R1.block hl0; have hc0 : w2.cell? ⟨g, k, none⟩ = some (.int .u8 p) := (blk_cell hh k).trans (by rw [hcur k (by have := HK.out; omega), EP.out]); have hf0 := blk_frozen hh k; have hc1 : w2.cell? ⟨g, k + 1, none⟩ = some (.int .u8 q) := (blk_cell hh (k + 1)).trans (by rw [hcur (k + 1) HK.out, EQ.out]); have hf1 := blk_frozen hh (k + 1); have HH := Aside0.mk hh; have HC := Aside0.mk hcur; have RA := Aside0.mk R1; have HG := Aside0.mk hg; clear hh hcur R1 g1 hg hll))
  refine (sum_calls f cap l _ (HR.out.below ((RA.out.2.1.setCell HG.out _).setCell HG.out _)) HO.out).mono ?_
  rintro e w3 ⟨rfl, hb⟩
  have B3 := Aside0.mk hb
  clear hb
  have hs2 := Aside0.mk (sum_calls (some ⟨g, 0, none⟩) cp ((l.set k (bits .xor .u8 p x)).set (k + 1) (bits .xor .u8 q z)) w3 (ReadsInt.below (reads_block (blk_set (blk_set HH.out k (.int .u8 (bits .xor .u8 p x))) (k + 1) (.int .u8 (bits .xor .u8 q z))) ((l.set k (bits .xor .u8 p x)).set (k + 1) (bits .xor .u8 q z)) (by simp only [List.length_set, List.length_set]; omega) (cells_set (cells_set HC.out k _ (by have := HK.out; omega)) (k + 1) _ (by rw [List.length_set]; exact HK.out))) B3.out) ((HO.out.set k _ YR.out.1 YR.out.2).set (k + 1) _ ZR.out.1 ZR.out.2))
  rw [List.length_set, List.length_set] at hs2
  go_wp2_with fail
  refine hs2.out.mono ?_
  rintro e w4 ⟨rfl, hb⟩
  have B4 := Aside0.mk (below_then (below_then ((RA.out.2.1.setCell HG.out _).setCell HG.out _) (Nat.le_trans RA.out.2.1.size (Nat.le_of_eq (by simp))) B3.out) (Nat.le_trans (Nat.le_trans RA.out.2.1.size (Nat.le_of_eq (by simp))) B3.out.size) hb)
  clear hb
  go_wp2
  go_ret
  exact ⟨ret_bool E.out, B4.out⟩

set_option maxHeartbeats 4000000 in
set_option maxRecDepth 100000 in
theorem pairsAz (f : Option Addr) (cap : Nat) (l : List Int) (a x z : Int) (w : World) (hr : ReadsInt w .u8 f l.length l) (ho : Oct l) (hn : f = none → cap = 0) (x0 : 0 ≤ x) (x1 : x ≤ 255) (z0 : 0 ≤ z) (z1 : z ≤ 255) (hxz : 0 < x ∨ 0 < z) (hl : l.length ≤ 1000) (hk : 0 + 1 < l.length) (ha : a < 0) (hx : x = 0) (hz : 0 < z) :
    Calls Try.prog 8 #[.slice f l.length cap, .int .i64 a, .int .u8 x, .int .u8 z] w fun e w' => e = .returned (.bool true) ∧ Below w.heap.size w w' := by
  have HR := Aside0.mk hr
  have HO : Aside0 (Oct l) := Aside0.mk ho
  have HN := Aside0.mk hn
  have hl0 : 0 < l.length := by omega
  have HL0 : Aside0 (([] : List Int).length + l.length ≤ 1000000) := Aside0.mk (by simp; omega)
  have hb := HO.out.getD 0
  have hb1 := HO.out.getD (0 + 1)
  have E := Aside0.mk (pairs_ne HO.out 0 hk x z x0 x1 z0 z1 hxz)
  obtain ⟨p, ep⟩ : ∃ p, l.getD 0 0 = p := ⟨_, rfl⟩
  obtain ⟨q, eq⟩ : ∃ q, l.getD (0 + 1) 0 = q := ⟨_, rfl⟩
  rw [ep] at hb E
  rw [eq] at hb1 E
  have EP := Aside0.mk ep
  have EQ := Aside0.mk eq
  clear ep eq
  have e2 : (x == 0) = true := beq_iff_eq.mpr hx
  have e3 : (z == 0) = false := beq_eq_false_iff_ne.mpr (by omega)
  clear hx hz
  have e0 : ((l.length : Int) == 0) = false := beq_eq_false_iff_ne.mpr (by omega)
  have e1 : decide ((l.length : Int) < 2) = false := by simp; omega
  have hki : (0 : Int) < l.length := by omega
  have hkj : (1 : Int) < l.length := by omega
  have hkm : 0 < (l.length : Int) - 1 := by omega
  have HK := Aside0.mk hk
  have ha' : decide (a < 0) = true := by simp; omega
  clear hr ho hn hk
  have YR := Aside0.mk (xor8_range hb.1 hb.2 x0 x1)
  have ZR := Aside0.mk (xor8_range hb1.1 hb1.2 z0 z1)
  clear hb hb1
  go_enter Try.func8, Try.ntmps8
  go_wp2_with fail
  refine (known_calls _).mono ?_
  rintro e w1 ⟨rfl, hb⟩
  have B1 := Aside0.mk hb
  clear hb
  go_wp2_with (first | (at_builtin; have q3 := (Row.nil B1.out); have q2 := (HR.out.below B1.out); refine append_bytes rfl _ _ rfl _ _ ([] : List Int) q3 f l _ _ q2 HN.out HO.out HL0.out rfl rfl ?_; clear q2 q3; intro v1 w2 R1 g1; rw [List.nil_append] at R1; obtain ⟨g, cp, cur, rfl, hh, hg, hll, hcur⟩ := R1.block hl0; have hc0 : w2.cell? ⟨g, 0, none⟩ = some (.int .u8 p) := (blk_cell hh 0).trans (by rw [hcur 0 (by have := HK.out; omega), EP.out]); have hf0 := blk_frozen hh 0; have hc1 : w2.cell? ⟨g, 0 + 1, none⟩ = some (.int .u8 q) := (blk_cell hh (0 + 1)).trans (by rw [hcur (0 + 1) HK.out, EQ.out]); have hf1 := blk_frozen hh (0 + 1); simp only [Nat.zero_add] at hc1 hf1; have HH := Aside0.mk hh; have HC := Aside0.mk hcur; have RA := Aside0.mk R1; have HG := Aside0.mk hg; clear hh hcur R1 g1 hg hll))
  refine (sum_calls f cap l _ (HR.out.below ((RA.out.2.1.setCell HG.out _).setCell HG.out _)) HO.out).mono ?_
  rintro e w3 ⟨rfl, hb⟩
  have B3 := Aside0.mk hb
  clear hb
  have hs2 := Aside0.mk (sum_calls (some ⟨g, 0, none⟩) cp ((l.set 0 (bits .xor .u8 p x)).set (0 + 1) (bits .xor .u8 q z)) w3 (ReadsInt.below (reads_block (blk_set (blk_set HH.out 0 (.int .u8 (bits .xor .u8 p x))) (0 + 1) (.int .u8 (bits .xor .u8 q z))) ((l.set 0 (bits .xor .u8 p x)).set (0 + 1) (bits .xor .u8 q z)) (by simp only [List.length_set, List.length_set]; omega) (cells_set (cells_set HC.out 0 _ (by have := HK.out; omega)) (0 + 1) _ (by rw [List.length_set]; exact HK.out))) B3.out) ((HO.out.set 0 _ YR.out.1 YR.out.2).set (0 + 1) _ ZR.out.1 ZR.out.2))
  rw [List.length_set, List.length_set] at hs2
  go_wp2_with fail
  refine hs2.out.mono ?_
  rintro e w4 ⟨rfl, hb⟩
  have B4 := Aside0.mk (below_then (below_then ((RA.out.2.1.setCell HG.out _).setCell HG.out _) (Nat.le_trans RA.out.2.1.size (Nat.le_of_eq (by simp))) B3.out) (Nat.le_trans (Nat.le_trans RA.out.2.1.size (Nat.le_of_eq (by simp))) B3.out.size) hb)
  clear hb
  go_wp2
  go_ret
  exact ⟨ret_bool E.out, B4.out⟩

set_option maxHeartbeats 4000000 in
set_option maxRecDepth 100000 in
theorem pairsBz (f : Option Addr) (cap : Nat) (l : List Int) (a x z : Int) (w : World) (hr : ReadsInt w .u8 f l.length l) (ho : Oct l) (hn : f = none → cap = 0) (x0 : 0 ≤ x) (x1 : x ≤ 255) (z0 : 0 ≤ z) (z1 : z ≤ 255) (hxz : 0 < x ∨ 0 < z) (hl : l.length ≤ 1000) (k : Nat) (hk : k + 1 < l.length) (ha : 0 ≤ a) (ek : a % ((l.length : Int) - 1) = k) (hx : x = 0) (hz : 0 < z) :
    Calls Try.prog 8 #[.slice f l.length cap, .int .i64 a, .int .u8 x, .int .u8 z] w fun e w' => e = .returned (.bool true) ∧ Below w.heap.size w w' := by
  have HR := Aside0.mk hr
  have HO : Aside0 (Oct l) := Aside0.mk ho
  have HN := Aside0.mk hn
  have hl0 : 0 < l.length := by omega
  have HL0 : Aside0 (([] : List Int).length + l.length ≤ 1000000) := Aside0.mk (by simp; omega)
  have hb := HO.out.getD k
  have hb1 := HO.out.getD (k + 1)
  have E := Aside0.mk (pairs_ne HO.out k hk x z x0 x1 z0 z1 hxz)
  obtain ⟨p, ep⟩ : ∃ p, l.getD k 0 = p := ⟨_, rfl⟩
  obtain ⟨q, eq⟩ : ∃ q, l.getD (k + 1) 0 = q := ⟨_, rfl⟩
  rw [ep] at hb E
  rw [eq] at hb1 E
  have EP := Aside0.mk ep
  have EQ := Aside0.mk eq
  clear ep eq
  have e2 : (x == 0) = true := beq_iff_eq.mpr hx
  have e3 : (z == 0) = false := beq_eq_false_iff_ne.mpr (by omega)
  clear hx hz
  have e0 : ((l.length : Int) == 0) = false := beq_eq_false_iff_ne.mpr (by omega)
  have e1 : decide ((l.length : Int) < 2) = false := by simp; omega
  have hki : ((k : Nat) : Int) < l.length := by omega
  have hkj : ((k : Int) + 1) < l.length := by omega
  have hkm : 0 < (l.length : Int) - 1 := by omega
  have HK := Aside0.mk hk
  have ha' : decide (a < 0) = false := by simp; omega
  clear hr ho hn hk
  have YR := Aside0.mk (xor8_range hb.1 hb.2 x0 x1)
  have ZR := Aside0.mk (xor8_range hb1.1 hb1.2 z0 z1)
  clear hb hb1
  go_enter Try.func8, Try.ntmps8
  go_wp2_with fail
  refine (known_calls _).mono ?_
  rintro e w1 ⟨rfl, hb⟩
  have B1 := Aside0.mk hb
  clear hb
  go_wp2_with (first | (at_builtin; have q3 := (Row.nil B1.out); have q2 := (HR.out.below B1.out); refine append_bytes rfl _ _ rfl _ _ ([] : List Int) q3 f l _ _ q2 HN.out HO.out HL0.out rfl rfl ?_; clear q2 q3; intro v1 w2 R1 g1; rw [List.nil_append] at R1; obtain ⟨g, cp, cur, rfl, hh, hg, hll, hcur⟩ := R1.block hl0; have hc0 : w2.cell? ⟨g, k, none⟩ = some (.int .u8 p) := (blk_cell hh k).trans (by rw [hcur k (by have := HK.out; omega), EP.out]); have hf0 := blk_frozen hh k; have hc1 : w2.cell? ⟨g, k + 1, none⟩ = some (.int .u8 q) := (blk_cell hh (k + 1)).trans (by rw [hcur (k + 1) HK.out, EQ.out]); have hf1 := blk_frozen hh (k + 1); have HH := Aside0.mk hh; have HC := Aside0.mk hcur; have RA := Aside0.mk R1; have HG := Aside0.mk hg; clear hh hcur R1 g1 hg hll))
  refine (sum_calls f cap l _ (HR.out.below ((RA.out.2.1.setCell HG.out _).setCell HG.out _)) HO.out).mono ?_
  rintro e w3 ⟨rfl, hb⟩
  have B3 := Aside0.mk hb
  clear hb
  have hs2 := Aside0.mk (sum_calls (some ⟨g, 0, none⟩) cp ((l.set k (bits .xor .u8 p x)).set (k + 1) (bits .xor .u8 q z)) w3 (ReadsInt.below (reads_block (blk_set (blk_set HH.out k (.int .u8 (bits .xor .u8 p x))) (k + 1) (.int .u8 (bits .xor .u8 q z))) ((l.set k (bits .xor .u8 p x)).set (k + 1) (bits .xor .u8 q z)) (by simp only [List.length_set, List.length_set]; omega) (cells_set (cells_set HC.out k _ (by have := HK.out; omega)) (k + 1) _ (by rw [List.length_set]; exact HK.out))) B3.out) ((HO.out.set k _ YR.out.1 YR.out.2).set (k + 1) _ ZR.out.1 ZR.out.2))
  rw [List.length_set, List.length_set] at hs2
  go_wp2_with fail
  refine hs2.out.mono ?_
  rintro e w4 ⟨rfl, hb⟩
  have B4 := Aside0.mk (below_then (below_then ((RA.out.2.1.setCell HG.out _).setCell HG.out _) (Nat.le_trans RA.out.2.1.size (Nat.le_of_eq (by simp))) B3.out) (Nat.le_trans (Nat.le_trans RA.out.2.1.size (Nat.le_of_eq (by simp))) B3.out.size) hb)
  clear hb
  go_wp2
  go_ret
  exact ⟨ret_bool E.out, B4.out⟩

set_option maxHeartbeats 4000000 in
set_option maxRecDepth 100000 in
theorem pairs_long (f : Option Addr) (len cap : Nat) (a x z : Int) (w : World) (hm : (len : Int) ≤ 9223372036854775807) (h : 1000 < len) :
    Calls Try.prog 8 #[.slice f len cap, .int .i64 a, .int .u8 x, .int .u8 z] w fun e w' => e = .returned (.bool true) ∧ Below w.heap.size w w' := by
  go_enter Try.func8, Try.ntmps8
  go_wp2_with fail
  refine (known_calls _).mono ?_
  rintro e w1 ⟨rfl, hb⟩
  have B1 := Aside0.mk hb
  clear hb
  go_wp2
  go_ret
  exact ⟨rfl, B1.out⟩

set_option maxHeartbeats 4000000 in
set_option maxRecDepth 100000 in
theorem pairs_empty (f : Option Addr) (len cap : Nat) (a x z : Int) (w : World) (hm : (len : Int) ≤ 9223372036854775807) (h : len ≤ 1000) (hz : len < 2) :
    Calls Try.prog 8 #[.slice f len cap, .int .i64 a, .int .u8 x, .int .u8 z] w fun e w' => e = .returned (.bool true) ∧ Below w.heap.size w w' := by
  have e1 : decide ((len : Int) < 2) = true := by simp; omega
  go_enter Try.func8, Try.ntmps8
  go_wp2_with fail
  refine (known_calls _).mono ?_
  rintro e w1 ⟨rfl, hb⟩
  have B1 := Aside0.mk hb
  clear hb
  go_wp2
  go_ret
  exact ⟨rfl, B1.out⟩

set_option maxHeartbeats 4000000 in
set_option maxRecDepth 100000 in
theorem pairs_same (f : Option Addr) (len cap : Nat) (a x z : Int) (w : World) (hm : (len : Int) ≤ 9223372036854775807) (h : len ≤ 1000) (hz : 2 ≤ len) (hx : x = 0) (hy : z = 0) :
    Calls Try.prog 8 #[.slice f len cap, .int .i64 a, .int .u8 x, .int .u8 z] w fun e w' => e = .returned (.bool true) ∧ Below w.heap.size w w' := by
  have e1 : decide ((len : Int) < 2) = false := by simp; omega
  have e2 : (x == 0) = true := by simp [hx]
  have e3 : (z == 0) = true := by simp [hy]
  clear hx hy
  go_enter Try.func8, Try.ntmps8
  go_wp2_with fail
  refine (known_calls _).mono ?_
  rintro e w1 ⟨rfl, hb⟩
  have B1 := Aside0.mk hb
  clear hb
  go_wp2
  go_ret
  exact ⟨rfl, B1.out⟩

theorem crcPairs_walk (f : Option Addr) (cap : Nat) (l : List Int) (a x z : Int) (w : World) (hr : ReadsInt w .u8 f l.length l) (hm : l.length ≤ maxLen) (ho : ∀ x ∈ l, (Lit.int .u8 x).wf = true) (y : l.length * 1 ≤ 140737488351232) (hn : f = none → cap = 0) (w1 : (Lit.int .i64 a).wf = true) (w2 : (Lit.int .u8 x).wf = true) (w3 : (Lit.int .u8 z).wf = true) :
    Calls Try.prog 8 #[.slice f l.length cap, .int .i64 a, .int .u8 x, .int .u8 z] w fun e w' => e = .returned (.bool true) ∧ Below w.heap.size w w' := by
  obtain ⟨x0, x1⟩ := lo8 w2
  obtain ⟨z0, z1⟩ := lo8 w3
  unfold maxLen at hm
  by_cases hl : l.length ≤ 1000
  · by_cases hz : l.length < 2
    · exact pairs_empty f l.length cap a x z w (by omega) hl hz
    · by_cases hx : x = 0 ∧ z = 0
      · exact pairs_same f l.length cap a x z w (by omega) hl (by omega) hx.1 hx.2
      · by_cases ha : a < 0
        · by_cases hx0 : x = 0
          · exact pairsAz f cap l a x z w hr ho hn x0 x1 z0 z1 (by omega) hl (by omega) ha hx0 (by omega)
          · exact pairsAx f cap l a x z w hr ho hn x0 x1 z0 z1 (by omega) hl (by omega) ha (by omega)
        · have h1 : 0 ≤ a % ((l.length : Int) - 1) := Int.emod_nonneg _ (by omega)
          have h2 : a % ((l.length : Int) - 1) < (l.length : Int) - 1 := Int.emod_lt_of_pos _ (by omega)
          by_cases hx0 : x = 0
          · exact pairsBz f cap l a x z w hr ho hn x0 x1 z0 z1 (by omega) hl (a % ((l.length : Int) - 1)).toNat (by omega) (by omega) (by omega) hx0 (by omega)
          · exact pairsBx f cap l a x z w hr ho hn x0 x1 z0 z1 (by omega) hl (a % ((l.length : Int) - 1)).toNat (by omega) (by omega) (by omega) (by omega)
  · exact pairs_long f l.length cap a x z w (by omega) (by omega)
end Go.Proofs.Ytckgiilloahcjaa.Own
