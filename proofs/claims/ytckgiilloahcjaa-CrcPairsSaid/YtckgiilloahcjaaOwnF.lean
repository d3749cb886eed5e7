/- The walks of CrcBytes and CrcPairs. -/
import Derived.Test.YtckgiilloahcjaaOwnD
namespace Go.Proofs.Ytckgiilloahcjaa.Own
open Go.RowKit Go.Proofs.Ytckgiilloahcjaa.Crc Go.Proofs.YtckgiilloahcjaaW.PrintWords Go.Proofs.YtckgiilloahcjaaW.PrintLast Go.Proofs.YtckgiilloahcjaaW.PrintMore
set_option linter.unusedVariables false
set_option linter.unusedSimpArgs false

/-- A row that holds some bytes lies at a block, known whole. -/
theorem Row.block {w0 w : World} {base : Nat} {v : Value} {l : List Int} (h : Row w0 w base v l) (hl : 0 < l.length) : ∃ g cap cur, v = .slice (some ⟨g, 0, none⟩) l.length cap ∧ w.heap[g]? = some (.cells cur 5 (0, 0)) ∧ w0.heap.size ≤ g ∧ l.length ≤ 9223372036854775807 ∧ ∀ k, k < l.length → cur[k]? = some (.int .u8 (l.getD k 0)) := by
  obtain ⟨⟨hll, hv⟩, _, hbase, _⟩ := h
  rcases hv with ⟨rfl, hn⟩ | ⟨g, cap, cur, rfl, hg, hh, hc, hm, hs, ht⟩
  · omega
  · refine ⟨g, cap, cur, rfl, hh, Nat.le_trans hbase hg, by unfold maxLen at hm; omega, fun j hj => ?_⟩
    have e : cur.toList[j]? = (nums .u8 l)[j]? := by
      rw [← ht, Nat.mul_one, List.getElem?_take_of_lt hj]
    rw [← Array.getElem?_toList, e]
    unfold nums
    rw [List.getElem?_map, List.getElem?_eq_getElem hj, List.getD_eq_getElem?_getD, List.getElem?_eq_getElem hj]
    rfl
theorem xor8_range {a b : Int} (a0 : 0 ≤ a) (a1 : a ≤ 255) (b0 : 0 ≤ b) (b1 : b ≤ 255) : 0 ≤ bits .xor .u8 a b ∧ bits .xor .u8 a b ≤ 255 := by
  rw [u8_xor a b a0 (by omega) b0 (by omega)]
  have : a.toNat ^^^ b.toNat < 256 := Nat.xor_lt_two_pow (n := 8) (by omega) (by omega)
  omega
theorem xor8_eq {a b : Int} (a0 : 0 ≤ a) (a1 : a ≤ 255) (b0 : 0 ≤ b) (b1 : b ≤ 255) (h : (bits .xor .u8 a b).toNat = a.toNat) : b = 0 := by
  rw [u8_xor a b a0 (by omega) b0 (by omega), Int.toNat_natCast] at h
  have h2 : a.toNat ^^^ b.toNat = a.toNat ^^^ 0 := by rw [h, Nat.xor_zero]
  have := xl_cancel h2
  omega
theorem getD_set (l : List Int) (k j : Nat) (v : Int) (hk : k < l.length) (hj : j < l.length) : (l.set k v).getD j 0 = if k = j then v else l.getD j 0 := by
  rw [List.getD_eq_getElem?_getD, List.getD_eq_getElem?_getD, List.getElem?_set]
  by_cases h : k = j
  · subst h; simp [hk]
  · simp [h]
theorem cells_set {cur : Array Value} {l : List Int} (h : ∀ k, k < l.length → cur[k]? = some (.int .u8 (l.getD k 0))) (k : Nat) (v : Int) (hk : k < l.length) : ∀ j, j < (l.set k v).length → (cur.setIfInBounds k (.int .u8 v))[j]? = some (.int .u8 ((l.set k v).getD j 0)) := by
  intro j hj
  rw [List.length_set] at hj
  rw [getD_set l k j v hk hj, Array.getElem?_setIfInBounds]
  by_cases e : k = j
  · subst e
    have hsz : k < cur.size := (Array.getElem?_eq_some_iff.1 (h k hk)).1
    simp [hsz]
  · rw [if_neg e, if_neg e]; exact h j hj
theorem Oct.set {l : List Int} (h : Oct l) (k : Nat) (v : Int) (v0 : 0 ≤ v) (v1 : v ≤ 255) : Oct (l.set k v) := by
  intro x hx
  rcases List.mem_or_eq_of_mem_set hx with hx | rfl
  · exact h x hx
  · simp [Lit.wf, IntKind.min, IntKind.max, IntKind.bits, IntKind.signed]; omega
theorem nat_set (l : List Int) (k : Nat) (v : Int) : nat (l.set k v) = (nat l).set k v.toNat := by unfold nat; rw [List.map_set]
theorem nat_get (l : List Int) (k : Nat) (hk : k < l.length) (h : k < (nat l).length) : (nat l)[k] = (l.getD k 0).toNat := by
  have e : (nat l)[k]? = some (l.getD k 0).toNat := by
    unfold nat
    rw [List.getElem?_map, List.getElem?_eq_getElem hk, List.getD_eq_getElem?_getD, List.getElem?_eq_getElem hk]
    rfl
  rw [List.getElem?_eq_getElem h] at e
  exact Option.some.inj e
theorem bytes_ne {l : List Int} (ho : Oct l) (k : Nat) (hk : k < l.length) (x : Int) (x0 : 0 < x) (x1 : x ≤ 255) : (crcI l != crcI (l.set k (bits .xor .u8 (l.getD k 0) x))) = true := by
  rw [bne_iff_ne]
  intro h
  have hb := ho.getD k
  have hx := xor8_range hb.1 hb.2 (by omega) x1
  have hk' : k < (nat l).length := by unfold nat; simpa using hk
  have h2 : run 65535 ((nat l).set k (bits .xor .u8 (l.getD k 0) x).toNat) = run 65535 (nat l) := by
    unfold crcI crc at h
    rw [nat_set] at h
    omega
  have h3 := run_set (r := 65535) (by omega) ho.bytes hk' (by omega) h2
  rw [nat_get l k hk hk'] at h3
  have := xor8_eq hb.1 hb.2 (by omega) x1 h3
  omega
theorem pairs_ne {l : List Int} (ho : Oct l) (k : Nat) (hk : k + 1 < l.length) (x z : Int) (x0 : 0 ≤ x) (x1 : x ≤ 255) (z0 : 0 ≤ z) (z1 : z ≤ 255) (hn : 0 < x ∨ 0 < z) :
    (crcI l != crcI ((l.set k (bits .xor .u8 (l.getD k 0) x)).set (k + 1) (bits .xor .u8 (l.getD (k + 1) 0) z))) = true := by
  rw [bne_iff_ne]
  intro h
  have hb := ho.getD k
  have hb1 := ho.getD (k + 1)
  have hx := xor8_range hb.1 hb.2 x0 x1
  have hz := xor8_range hb1.1 hb1.2 z0 z1
  have hk' : k + 1 < (nat l).length := by unfold nat; simpa using hk
  have h2 : run 65535 (((nat l).set k (bits .xor .u8 (l.getD k 0) x).toNat).set (k + 1) (bits .xor .u8 (l.getD (k + 1) 0) z).toNat) = run 65535 (nat l) := by
    unfold crcI crc at h
    rw [nat_set, nat_set] at h
    omega
  have h3 := run_set_two (r := 65535) (by omega) ho.bytes hk' (by omega) (by omega) h2
  rw [nat_get l k (by omega) (by omega), nat_get l (k + 1) hk hk'] at h3
  have e1 := xor8_eq hb.1 hb.2 x0 x1 h3.1
  have e2 := xor8_eq hb1.1 hb1.2 z0 z1 h3.2
  omega
theorem at_range (a : Int) (n : Nat) (hn : 0 < n) : ∃ k : Nat, k < n ∧ (if a < 0 then (0 : Int) else a) % n = k := by
  have h1 : 0 ≤ (if a < 0 then (0 : Int) else a) % (n : Int) := Int.emod_nonneg _ (by omega)
  have h2 : (if a < 0 then (0 : Int) else a) % (n : Int) < n := Int.emod_lt_of_pos _ (by omega)
  exact ⟨((if a < 0 then (0 : Int) else a) % (n : Int)).toNat, by omega, by omega⟩

set_option maxHeartbeats 4000000 in
set_option maxRecDepth 100000 in
theorem bytesA (f : Option Addr) (cap : Nat) (l : List Int) (a x : Int) (w : World) (hr : ReadsInt w .u8 f l.length l) (ho : Oct l) (hn : f = none → cap = 0) (x0 : 0 < x) (x1 : x ≤ 255) (hl : l.length ≤ 1000) (hk : 0 < l.length) (ha : a < 0) :
    Calls Try.prog 7 #[.slice f l.length cap, .int .i64 a, .int .u8 x] w fun e w' => e = .returned (.bool true) ∧ Below w.heap.size w w' := by
  have HR := Aside0.mk hr
  have HO : Aside0 (Oct l) := Aside0.mk ho
  have HN := Aside0.mk hn
  have hl0 : 0 < l.length := by omega
  have HL0 : Aside0 (([] : List Int).length + l.length ≤ 1000000) := Aside0.mk (by simp; omega)
  have hb := HO.out.getD 0
  have E := Aside0.mk (bytes_ne HO.out 0 hk x x0 x1)
  obtain ⟨p, ep⟩ : ∃ p, l.getD 0 0 = p := ⟨_, rfl⟩
  rw [ep] at hb E
  have EP := Aside0.mk ep
  clear ep
  have e0 : ((l.length : Int) == 0) = false := beq_eq_false_iff_ne.mpr (by omega)
  have e1 : (x == 0) = false := by simp; omega
  have hki : (0 : Int) < l.length := by omega
  have HK := Aside0.mk hk
  have ha' : decide (a < 0) = true := by simp; omega
  clear hr ho hn hk
  have YR := Aside0.mk (xor8_range hb.1 hb.2 (by omega) x1)
  clear hb
  go_enter Try.func7, Try.ntmps7
  go_wp2_with fail
  refine (known_calls _).mono ?_
  rintro e w1 ⟨rfl, hb⟩
  have B1 := Aside0.mk hb
  clear hb
  go_wp2_with (first | (at_builtin; have q3 := (Row.nil B1.out); have q2 := (HR.out.below B1.out); refine append_bytes rfl _ _ rfl _ _ ([] : List Int) q3 f l _ _ q2 HN.out HO.out HL0.out rfl rfl ?_; clear q2 q3; intro v1 w2 R1 g1; rw [List.nil_append] at R1; obtain ⟨g, cp, cur, rfl, hh, hg, hll, hcur⟩ := R1.block hl0; have hc0 : w2.cell? ⟨g, 0, none⟩ = some (.int .u8 p) := (blk_cell hh 0).trans (by rw [hcur 0 (by have := HK.out; omega), EP.out]); have hf0 := blk_frozen hh 0; have HH := Aside0.mk hh; have HC := Aside0.mk hcur; have RA := Aside0.mk R1; have HG := Aside0.mk hg; clear hh hcur R1 g1 hg hll))
  refine (sum_calls f cap l _ (HR.out.below (RA.out.2.1.setCell HG.out _)) HO.out).mono ?_
  rintro e w3 ⟨rfl, hb⟩
  have B3 := Aside0.mk hb
  clear hb
  have hs2 := Aside0.mk (sum_calls (some ⟨g, 0, none⟩) cp (l.set 0 (bits .xor .u8 p x)) w3 (ReadsInt.below (reads_block (blk_set HH.out 0 (.int .u8 (bits .xor .u8 p x))) (l.set 0 (bits .xor .u8 p x)) (by simp only [List.length_set]; omega) (cells_set HC.out 0 _ HK.out)) B3.out) (HO.out.set 0 _ YR.out.1 YR.out.2))
  rw [List.length_set] at hs2
  go_wp2_with fail
  refine hs2.out.mono ?_
  rintro e w4 ⟨rfl, hb⟩
  have B4 := Aside0.mk (below_then (below_then (RA.out.2.1.setCell HG.out _) (Nat.le_trans RA.out.2.1.size (Nat.le_of_eq (by simp))) B3.out) (Nat.le_trans (Nat.le_trans RA.out.2.1.size (Nat.le_of_eq (by simp))) B3.out.size) hb)
  clear hb
  go_wp2
  go_ret
  exact ⟨ret_bool E.out, B4.out⟩

set_option maxHeartbeats 4000000 in
set_option maxRecDepth 100000 in
theorem bytesB (f : Option Addr) (cap : Nat) (l : List Int) (a x : Int) (w : World) (hr : ReadsInt w .u8 f l.length l) (ho : Oct l) (hn : f = none → cap = 0) (x0 : 0 < x) (x1 : x ≤ 255) (hl : l.length ≤ 1000) (k : Nat) (hk : k < l.length) (ha : 0 ≤ a) (ek : a % ((l.length : Int)) = k) :
    Calls Try.prog 7 #[.slice f l.length cap, .int .i64 a, .int .u8 x] w fun e w' => e = .returned (.bool true) ∧ Below w.heap.size w w' := by
  have HR := Aside0.mk hr
  have HO : Aside0 (Oct l) := Aside0.mk ho
  have HN := Aside0.mk hn
  have hl0 : 0 < l.length := by omega
  have HL0 : Aside0 (([] : List Int).length + l.length ≤ 1000000) := Aside0.mk (by simp; omega)
  have hb := HO.out.getD k
  have E := Aside0.mk (bytes_ne HO.out k hk x x0 x1)
  obtain ⟨p, ep⟩ : ∃ p, l.getD k 0 = p := ⟨_, rfl⟩
  rw [ep] at hb E
  have EP := Aside0.mk ep
  clear ep
  have e0 : ((l.length : Int) == 0) = false := beq_eq_false_iff_ne.mpr (by omega)
  have e1 : (x == 0) = false := by simp; omega
  have hki : ((k : Nat) : Int) < l.length := by omega
  have HK := Aside0.mk hk
  have ha' : decide (a < 0) = false := by simp; omega
  clear hr ho hn hk
  have YR := Aside0.mk (xor8_range hb.1 hb.2 (by omega) x1)
  clear hb
  go_enter Try.func7, Try.ntmps7
  go_wp2_with fail
  refine (known_calls _).mono ?_
  rintro e w1 ⟨rfl, hb⟩
  have B1 := Aside0.mk hb
  clear hb
  go_wp2_with (first | (at_builtin; have q3 := (Row.nil B1.out); have q2 := (HR.out.below B1.out); refine append_bytes rfl _ _ rfl _ _ ([] : List Int) q3 f l _ _ q2 HN.out HO.out HL0.out rfl rfl ?_; clear q2 q3; intro v1 w2 R1 g1; rw [List.nil_append] at R1; obtain ⟨g, cp, cur, rfl, hh, hg, hll, hcur⟩ := R1.block hl0; have hc0 : w2.cell? ⟨g, k, none⟩ = some (.int .u8 p) := (blk_cell hh k).trans (by rw [hcur k (by have := HK.out; omega), EP.out]); have hf0 := blk_frozen hh k; have HH := Aside0.mk hh; have HC := Aside0.mk hcur; have RA := Aside0.mk R1; have HG := Aside0.mk hg; clear hh hcur R1 g1 hg hll))
  refine (sum_calls f cap l _ (HR.out.below (RA.out.2.1.setCell HG.out _)) HO.out).mono ?_
  rintro e w3 ⟨rfl, hb⟩
  have B3 := Aside0.mk hb
  clear hb
  have hs2 := Aside0.mk (sum_calls (some ⟨g, 0, none⟩) cp (l.set k (bits .xor .u8 p x)) w3 (ReadsInt.below (reads_block (blk_set HH.out k (.int .u8 (bits .xor .u8 p x))) (l.set k (bits .xor .u8 p x)) (by simp only [List.length_set]; omega) (cells_set HC.out k _ HK.out)) B3.out) (HO.out.set k _ YR.out.1 YR.out.2))
  rw [List.length_set] at hs2
  go_wp2_with fail
  refine hs2.out.mono ?_
  rintro e w4 ⟨rfl, hb⟩
  have B4 := Aside0.mk (below_then (below_then (RA.out.2.1.setCell HG.out _) (Nat.le_trans RA.out.2.1.size (Nat.le_of_eq (by simp))) B3.out) (Nat.le_trans (Nat.le_trans RA.out.2.1.size (Nat.le_of_eq (by simp))) B3.out.size) hb)
  clear hb
  go_wp2
  go_ret
  exact ⟨ret_bool E.out, B4.out⟩

set_option maxHeartbeats 4000000 in
set_option maxRecDepth 100000 in
theorem bytes_long (f : Option Addr) (len cap : Nat) (a x : Int) (w : World) (hm : (len : Int) ≤ 9223372036854775807) (h : 1000 < len) :
    Calls Try.prog 7 #[.slice f len cap, .int .i64 a, .int .u8 x] w fun e w' => e = .returned (.bool true) ∧ Below w.heap.size w w' := by
  go_enter Try.func7, Try.ntmps7
  go_wp2_with fail
  refine (known_calls _).mono ?_
  rintro e w1 ⟨rfl, hb⟩
  have B1 := Aside0.mk hb
  clear hb
  go_wp2
  go_ret
  exact ⟨rfl, B1.out⟩

set_option maxHeartbeats 4000000 in
set_option maxRecDepth 100000 in
theorem bytes_empty (f : Option Addr) (len cap : Nat) (a x : Int) (w : World) (hm : (len : Int) ≤ 9223372036854775807) (h : len ≤ 1000) (hz : len = 0) :
    Calls Try.prog 7 #[.slice f len cap, .int .i64 a, .int .u8 x] w fun e w' => e = .returned (.bool true) ∧ Below w.heap.size w w' := by
  have e1 : ((len : Int) == 0) = true := by simp [hz]
  clear hz
  go_enter Try.func7, Try.ntmps7
  go_wp2_with fail
  refine (known_calls _).mono ?_
  rintro e w1 ⟨rfl, hb⟩
  have B1 := Aside0.mk hb
  clear hb
  go_wp2
  go_ret
  exact ⟨rfl, B1.out⟩

set_option maxHeartbeats 4000000 in
set_option maxRecDepth 100000 in
theorem bytes_same (f : Option Addr) (len cap : Nat) (a x : Int) (w : World) (hm : (len : Int) ≤ 9223372036854775807) (h : len ≤ 1000) (hz : 0 < len) (hx : x = 0) :
    Calls Try.prog 7 #[.slice f len cap, .int .i64 a, .int .u8 x] w fun e w' => e = .returned (.bool true) ∧ Below w.heap.size w w' := by
  have e1 : ((len : Int) == 0) = false := by simp; omega
  have e2 : (x == 0) = true := by simp [hx]
  clear hz hx
  go_enter Try.func7, Try.ntmps7
  go_wp2_with fail
  refine (known_calls _).mono ?_
  rintro e w1 ⟨rfl, hb⟩
  have B1 := Aside0.mk hb
  clear hb
  go_wp2
  go_ret
  exact ⟨rfl, B1.out⟩

theorem crcBytes_walk (f : Option Addr) (cap : Nat) (l : List Int) (a x : Int) (w : World) (hr : ReadsInt w .u8 f l.length l) (hm : l.length ≤ maxLen) (ho : ∀ x ∈ l, (Lit.int .u8 x).wf = true) (y : l.length * 1 ≤ 140737488351232) (hn : f = none → cap = 0) (w1 : (Lit.int .i64 a).wf = true) (w2 : (Lit.int .u8 x).wf = true) :
    Calls Try.prog 7 #[.slice f l.length cap, .int .i64 a, .int .u8 x] w fun e w' => e = .returned (.bool true) ∧ Below w.heap.size w w' := by
  obtain ⟨x0, x1⟩ := lo8 w2
  unfold maxLen at hm
  by_cases hl : l.length ≤ 1000
  · by_cases hz : l.length = 0
    · exact bytes_empty f l.length cap a x w (by omega) hl hz
    · by_cases hx : x = 0
      · exact bytes_same f l.length cap a x w (by omega) hl (by omega) hx
      · by_cases ha : a < 0
        · exact bytesA f cap l a x w hr ho hn (by omega) x1 hl (by omega) ha
        · have h1 : 0 ≤ a % (l.length : Int) := Int.emod_nonneg _ (by omega)
          have h2 : a % (l.length : Int) < l.length := Int.emod_lt_of_pos _ (by omega)
          exact bytesB f cap l a x w hr ho hn (by omega) x1 hl (a % (l.length : Int)).toNat (by omega) (by omega) (by omega)
  · exact bytes_long f l.length cap a x w (by omega) (by omega)
end Go.Proofs.Ytckgiilloahcjaa.Own
