/- WireBends (layer 3). -/
import Derived.Test.YtamaemlhnkabcaaOwnO
namespace Go.Proofs.Ytamaemlhnkabcaa.Own
open Go.RowKit Go.Proofs.Ytamaemlhnkabcaa.Crc Go.Proofs.Ytamaemlhnkabcaa.PWireRefuses Go.Proofs.YtamaemlhnkabcaaW.PrintWords Go.Proofs.YtamaemlhnkabcaaW.PrintLast Go.Proofs.YtamaemlhnkabcaaW.PrintMore
set_option linter.unusedVariables false
set_option linter.unusedSimpArgs false

/-- A row that holds some bytes lies at a block, known whole. -/
theorem Row.block {w0 w : World} {base : Nat} {v : Value} {l : List Int} (h : Row w0 w base v l) (hl : 0 < l.length) : ∃ g cap cur, v = .slice (some ⟨g, 0, none⟩) l.length cap ∧ w.heap[g]? = some (.cells cur 5 (0, 0)) ∧ w0.heap.size ≤ g ∧ l.length ≤ 9223372036854775807 ∧ ∀ k, k < l.length → cur[k]? = some (.int .u8 (l.getD k 0)) := by
  obtain ⟨⟨hll, hv⟩, _, hbase, _⟩ := h
  rcases hv with ⟨rfl, hn⟩ | ⟨g, cap, cur, rfl, hg, hh, hc, hm, hs, ht⟩
  · omega
  · refine ⟨g, cap, cur, rfl, hh, Nat.le_trans hbase hg, by unfold maxLen at hm; omega, fun j hj => ?_⟩
    have e : cur.toList[j]? = (nums .u8 l)[j]? := by
      rw [← ht, Nat.mul_one, List.getElem?_take_of_lt hj]
    rw [← Array.getElem?_toList, e]
    unfold nums
    rw [List.getElem?_map, List.getElem?_eq_getElem hj, List.getD_eq_getElem?_getD, List.getElem?_eq_getElem hj]
    rfl
theorem xor8_range {a b : Int} (a0 : 0 ≤ a) (a1 : a ≤ 255) (b0 : 0 ≤ b) (b1 : b ≤ 255) : 0 ≤ bits .xor .u8 a b ∧ bits .xor .u8 a b ≤ 255 := by
  rw [u8_xor a b a0 (by omega) b0 (by omega)]
  have : a.toNat ^^^ b.toNat < 256 := Nat.xor_lt_two_pow (n := 8) (by omega) (by omega)
  omega
theorem xor8_eq {a b : Int} (a0 : 0 ≤ a) (a1 : a ≤ 255) (b0 : 0 ≤ b) (b1 : b ≤ 255) (h : (bits .xor .u8 a b).toNat = a.toNat) : b = 0 := by
  rw [u8_xor a b a0 (by omega) b0 (by omega), Int.toNat_natCast] at h
  have h2 : a.toNat ^^^ b.toNat = a.toNat ^^^ 0 := by rw [h, Nat.xor_zero]
  have := xl_cancel h2
  omega
theorem getD_set (l : List Int) (k j : Nat) (v : Int) (hk : k < l.length) (hj : j < l.length) : (l.set k v).getD j 0 = if k = j then v else l.getD j 0 := by
  rw [List.getD_eq_getElem?_getD, List.getD_eq_getElem?_getD, List.getElem?_set]
  by_cases h : k = j
  · subst h; simp [hk]
  · simp [h]
theorem cells_set {cur : Array Value} {l : List Int} (h : ∀ k, k < l.length → cur[k]? = some (.int .u8 (l.getD k 0))) (k : Nat) (v : Int) (hk : k < l.length) : ∀ j, j < (l.set k v).length → (cur.setIfInBounds k (.int .u8 v))[j]? = some (.int .u8 ((l.set k v).getD j 0)) := by
  intro j hj
  rw [List.length_set] at hj
  rw [getD_set l k j v hk hj, Array.getElem?_setIfInBounds]
  by_cases e : k = j
  · subst e
    have hsz : k < cur.size := (Array.getElem?_eq_some_iff.1 (h k hk)).1
    simp [hsz]
  · rw [if_neg e, if_neg e]; exact h j hj
theorem Oct.set {l : List Int} (h : Oct l) (k : Nat) (v : Int) (v0 : 0 ≤ v) (v1 : v ≤ 255) : Oct (l.set k v) := by
  intro x hx
  rcases List.mem_or_eq_of_mem_set hx with hx | rfl
  · exact h x hx
  · simp [Lit.wf, IntKind.min, IntKind.max, IntKind.bits, IntKind.signed]; omega
theorem nat_set (l : List Int) (k : Nat) (v : Int) : nat (l.set k v) = (nat l).set k v.toNat := by unfold nat; rw [List.map_set]
theorem nat_get (l : List Int) (k : Nat) (hk : k < l.length) (h : k < (nat l).length) : (nat l)[k] = (l.getD k 0).toNat := by
  have e : (nat l)[k]? = some (l.getD k 0).toNat := by
    unfold nat
    rw [List.getElem?_map, List.getElem?_eq_getElem hk, List.getD_eq_getElem?_getD, List.getElem?_eq_getElem hk]
    rfl
  rw [List.getElem?_eq_getElem h] at e
  exact Option.some.inj e
theorem crc_zero {F : Fr} (hw : F.wf) : crc (nat F.bytes) = 0 := by
  have key : ∀ p : List Int, Oct p → crc (nat (p ++ [crcI p / 256, crcI p % 256])) = 0 := fun p hp => by
    have e : nat (p ++ [crcI p / 256, crcI p % 256]) = nat p ++ [crc (nat p) / 256, crc (nat p) % 256] := by
      unfold nat crcI nat
      rw [List.map_append, List.map_cons, List.map_cons, List.map_nil]
      congr 1
    rw [e]
    exact crc_self hp.bytes
  by_cases hk : F.k = 1
  · rw [bytes_long hk]; exact key _ (oct_long hw)
  · rw [bytes_short hk]; exact key _ (oct_short hw)
theorem bends_none {F : Fr} (hw : F.wf) (k : Nat) (hk : k < F.bytes.length) (x : Int) (x0 : 0 ≤ x) (x1 : x ≤ 255) (hx : ¬ x = 0) : dec (F.bytes.set k (bits .xor .u8 (F.bytes.getD k 0) x)) = none := by
  have ho := oct_bytes hw
  have hb := ho.getD k
  have hr := xor8_range hb.1 hb.2 x0 x1
  rcases hd : dec (F.bytes.set k (bits .xor .u8 (F.bytes.getD k 0) x)) with _ | H
  · rfl
  · exfalso
    obtain ⟨he, hw', -⟩ := dec_bytes (ho.set k _ hr.1 hr.2) hd
    have h1 := crc_zero hw'
    rw [he, nat_set] at h1
    have h2 := crc_zero hw
    have hk' : k < (nat F.bytes).length := by unfold nat; simpa using hk
    have h3 := run_set (r := 65535) (by omega) ho.bytes hk' (y := (bits .xor .u8 (F.bytes.getD k 0) x).toNat) (by omega) (by unfold crc at h1 h2; omega)
    rw [nat_get _ k hk hk'] at h3
    exact hx (xor8_eq hb.1 hb.2 x0 x1 h3)
theorem bends_same {F : Fr} (hw : F.wf) (hs : F.sound = true) (k : Nat) (hk : k < F.bytes.length) : dec (F.bytes.set k (bits .xor .u8 (F.bytes.getD k 0) 0)) = some F := by
  have hb := (oct_bytes hw).getD k
  have e : bits .xor .u8 (F.bytes.getD k 0) 0 = F.bytes.getD k 0 := by
    rw [u8_xor _ 0 hb.1 (by omega) (by omega) (by omega), show ((0 : Int)).toNat = 0 from rfl, Nat.xor_zero]
    omega
  rw [e, List.getD_eq_getElem?_getD, List.getElem?_eq_getElem hk, Option.getD_some, List.set_getElem_self]
  exact dec_enc hw hs
set_option maxHeartbeats 4000000 in
set_option maxRecDepth 100000 in
theorem bends_6z (k l s a b y q  : Int) (w : World) (F : Fr) (MK : Aside0 (∀ w : World, Calls Try.prog 13 #[.int .u8 k, .int .u8 l, .int .u16 s, .int .u8 a, .int .u8 b, .int .u32 y] w fun e w' => e = .returned (.agg #[.int .u8 F.k, .int .u8 F.l, .int .u16 F.s, .int .u8 F.a, .int .u8 F.b, .int .u32 F.y]) ∧ Below w.heap.size w w')) (HW : Aside0 F.wf) (HS : Aside0 (F.sound = true)) (BL : Aside0 (F.bytes.length = 6)) (q0 : 0 ≤ q) (q1 : q ≤ 255)  :
    Calls Try.prog 9 #[.int .u8 k, .int .u8 l, .int .u16 s, .int .u8 a, .int .u8 b, .int .u32 y, .int .u8 q, .int .u8 0] w fun e w' => e = .returned (.bool true) ∧ Below w.heap.size w w' := by
  obtain ⟨j, hj, hjk⟩ : ∃ j : Nat, j < 6 ∧ q % 6 = (j : Int) := ⟨(q % 6).toNat, by omega, by omega⟩
  have OB := Aside0.mk (oct_bytes HW.out)
  have HJ : Aside0 (j < F.bytes.length) := Aside0.mk (by rw [BL.out]; exact hj)
  have DE := Aside0.mk (bends_same HW.out HS.out j HJ.out)
  have hb := OB.out.getD j
  obtain ⟨p, ep⟩ : ∃ p, F.bytes.getD j 0 = p := ⟨_, rfl⟩
  rw [ep] at hb DE
  have XR := Aside0.mk (xor8_range hb.1 hb.2 (b := 0) (by omega) (by omega))
  have EP := Aside0.mk ep
  clear ep
  have j0 : (0 : Int) ≤ (j : Int) := by omega
  have j1 : (j : Int) < 6 := by omega
  
  
  go_enter Try.func9, Try.ntmps9
  go_wp2_with fail
  refine (MK.out _).mono ?_
  rintro e w1 ⟨rfl, hb1⟩
  have B1 := Aside0.mk hb1
  clear hb1
  go_wp2_with fail
  refine (enc_fr F _ HW.out HS.out).mono ?_
  rintro e w2 ⟨base, v, rfl, R⟩
  have B2 := Aside0.mk (below_then B1.out B1.out.size R.bel)
  obtain ⟨g, c, cur, rfl, hh, hg, hll, hcur⟩ := R.block (by rw [BL.out]; omega)
  have hc0 : w2.cell? ⟨g, j, none⟩ = some (.int .u8 p) := (blk_cell hh j).trans (by rw [hcur j HJ.out, EP.out])
  have hf0 := blk_frozen hh j
  obtain ⟨A', c', hv, hr, hc, -⟩ := R.slice
  simp only [Value.slice.injEq] at hv
  obtain ⟨-, -, rfl⟩ := hv
  have HC := Aside0.mk hc
  have HH := Aside0.mk hh
  have HCU := Aside0.mk hcur
  have HG := Aside0.mk (Nat.le_trans B1.out.size hg)
  have HG1 := Aside0.mk hg
  clear R hr hc hh hg hll hcur hb
  rw [BL.out]
  go_wp2_with fail
  have B3 := Aside0.mk (show Below w.heap.size w (w2.setCell ⟨g, j, none⟩ (.int .u8 (bits .xor .u8 p 0))) from B2.out.setCell HG.out _)
  refine (dec_lit (some ⟨g, 0, none⟩) c 6 (F.bytes.set j (bits .xor .u8 p 0)) _ (by rw [List.length_set, BL.out]) (reads_block (blk_set HH.out j (.int .u8 (bits .xor .u8 p 0))) _ (by rw [List.length_set, BL.out]; omega) (cells_set HCU.out j _ HJ.out)) (by rw [List.length_set]; exact HC.out) (OB.out.set j _ XR.out.1 XR.out.2) DE.out).mono ?_
  rintro e w3 ⟨he, hb⟩
  obtain rfl : e = .returned (.tuple #[.agg #[.int .u8 F.k, .int .u8 F.l, .int .u16 F.s, .int .u8 F.a, .int .u8 F.b, .int .u32 F.y], .int .u16 0]) := he
  have B4 := Aside0.mk (below_alloc (below_then B3.out B3.out.size hb) (.cells #[.int .u8 F.k, .int .u8 F.l, .int .u16 F.s, .int .u8 F.a, .int .u8 F.b, .int .u32 F.y] 25))
  clear hb hc0 hf0
  go_wp2_with fail
  refine (known_calls _).mono ?_
  rintro e w4 ⟨rfl, hb⟩
  have B5 := Aside0.mk (below_then B4.out B4.out.size hb)
  clear hb
  go_wp2
  go_ret
  exact ⟨rfl, B5.out⟩
set_option maxHeartbeats 4000000 in
set_option maxRecDepth 100000 in
theorem bends_6x (k l s a b y q x : Int) (w : World) (F : Fr) (MK : Aside0 (∀ w : World, Calls Try.prog 13 #[.int .u8 k, .int .u8 l, .int .u16 s, .int .u8 a, .int .u8 b, .int .u32 y] w fun e w' => e = .returned (.agg #[.int .u8 F.k, .int .u8 F.l, .int .u16 F.s, .int .u8 F.a, .int .u8 F.b, .int .u32 F.y]) ∧ Below w.heap.size w w')) (HW : Aside0 F.wf) (HS : Aside0 (F.sound = true)) (BL : Aside0 (F.bytes.length = 6)) (q0 : 0 ≤ q) (q1 : q ≤ 255) (x0 : 0 ≤ x) (x1 : x ≤ 255) (hx : ¬ x = 0) :
    Calls Try.prog 9 #[.int .u8 k, .int .u8 l, .int .u16 s, .int .u8 a, .int .u8 b, .int .u32 y, .int .u8 q, .int .u8 x] w fun e w' => e = .returned (.bool true) ∧ Below w.heap.size w w' := by
  obtain ⟨j, hj, hjk⟩ : ∃ j : Nat, j < 6 ∧ q % 6 = (j : Int) := ⟨(q % 6).toNat, by omega, by omega⟩
  have OB := Aside0.mk (oct_bytes HW.out)
  have HJ : Aside0 (j < F.bytes.length) := Aside0.mk (by rw [BL.out]; exact hj)
  have DE := Aside0.mk (bends_none HW.out j HJ.out x x0 x1 hx)
  have hb := OB.out.getD j
  obtain ⟨p, ep⟩ : ∃ p, F.bytes.getD j 0 = p := ⟨_, rfl⟩
  rw [ep] at hb DE
  have XR := Aside0.mk (xor8_range hb.1 hb.2 x0 x1)
  have EP := Aside0.mk ep
  clear ep
  have j0 : (0 : Int) ≤ (j : Int) := by omega
  have j1 : (j : Int) < 6 := by omega
  have ex : (x == 0) = false := beq_eq_false_iff_ne.mpr hx
  clear hx
  go_enter Try.func9, Try.ntmps9
  go_wp2_with fail
  refine (MK.out _).mono ?_
  rintro e w1 ⟨rfl, hb1⟩
  have B1 := Aside0.mk hb1
  clear hb1
  go_wp2_with fail
  refine (enc_fr F _ HW.out HS.out).mono ?_
  rintro e w2 ⟨base, v, rfl, R⟩
  have B2 := Aside0.mk (below_then B1.out B1.out.size R.bel)
  obtain ⟨g, c, cur, rfl, hh, hg, hll, hcur⟩ := R.block (by rw [BL.out]; omega)
  have hc0 : w2.cell? ⟨g, j, none⟩ = some (.int .u8 p) := (blk_cell hh j).trans (by rw [hcur j HJ.out, EP.out])
  have hf0 := blk_frozen hh j
  obtain ⟨A', c', hv, hr, hc, -⟩ := R.slice
  simp only [Value.slice.injEq] at hv
  obtain ⟨-, -, rfl⟩ := hv
  have HC := Aside0.mk hc
  have HH := Aside0.mk hh
  have HCU := Aside0.mk hcur
  have HG := Aside0.mk (Nat.le_trans B1.out.size hg)
  have HG1 := Aside0.mk hg
  clear R hr hc hh hg hll hcur hb
  rw [BL.out]
  go_wp2_with fail
  have B3 := Aside0.mk (show Below w.heap.size w (w2.setCell ⟨g, j, none⟩ (.int .u8 (bits .xor .u8 p x))) from B2.out.setCell HG.out _)
  refine (dec_lit (some ⟨g, 0, none⟩) c 6 (F.bytes.set j (bits .xor .u8 p x)) _ (by rw [List.length_set, BL.out]) (reads_block (blk_set HH.out j (.int .u8 (bits .xor .u8 p x))) _ (by rw [List.length_set, BL.out]; omega) (cells_set HCU.out j _ HJ.out)) (by rw [List.length_set]; exact HC.out) (OB.out.set j _ XR.out.1 XR.out.2) DE.out).mono ?_
  rintro e w3 ⟨he, hb⟩
  obtain rfl : e = .returned (.tuple #[.agg #[.int .u8 0, .int .u8 0, .int .u16 0, .int .u8 0, .int .u8 0, .int .u32 0], .int .u16 30]) := he
  have B4 := Aside0.mk (below_alloc (below_then B3.out B3.out.size hb) (.cells #[.int .u8 0, .int .u8 0, .int .u16 0, .int .u8 0, .int .u8 0, .int .u32 0] 25))
  clear hb hc0 hf0
  go_wp2_with fail
  refine (known_calls _).mono ?_
  rintro e w4 ⟨rfl, hb⟩
  have B5 := Aside0.mk (below_then B4.out B4.out.size hb)
  clear hb
  go_wp2
  go_ret
  exact ⟨rfl, B5.out⟩
set_option maxHeartbeats 4000000 in
set_option maxRecDepth 100000 in
theorem bends_12z (k l s a b y q  : Int) (w : World) (F : Fr) (MK : Aside0 (∀ w : World, Calls Try.prog 13 #[.int .u8 k, .int .u8 l, .int .u16 s, .int .u8 a, .int .u8 b, .int .u32 y] w fun e w' => e = .returned (.agg #[.int .u8 F.k, .int .u8 F.l, .int .u16 F.s, .int .u8 F.a, .int .u8 F.b, .int .u32 F.y]) ∧ Below w.heap.size w w')) (HW : Aside0 F.wf) (HS : Aside0 (F.sound = true)) (BL : Aside0 (F.bytes.length = 12)) (q0 : 0 ≤ q) (q1 : q ≤ 255)  :
    Calls Try.prog 9 #[.int .u8 k, .int .u8 l, .int .u16 s, .int .u8 a, .int .u8 b, .int .u32 y, .int .u8 q, .int .u8 0] w fun e w' => e = .returned (.bool true) ∧ Below w.heap.size w w' := by
  obtain ⟨j, hj, hjk⟩ : ∃ j : Nat, j < 12 ∧ q % 12 = (j : Int) := ⟨(q % 12).toNat, by omega, by omega⟩
  have OB := Aside0.mk (oct_bytes HW.out)
  have HJ : Aside0 (j < F.bytes.length) := Aside0.mk (by rw [BL.out]; exact hj)
  have DE := Aside0.mk (bends_same HW.out HS.out j HJ.out)
  have hb := OB.out.getD j
  obtain ⟨p, ep⟩ : ∃ p, F.bytes.getD j 0 = p := ⟨_, rfl⟩
  rw [ep] at hb DE
  have XR := Aside0.mk (xor8_range hb.1 hb.2 (b := 0) (by omega) (by omega))
  have EP := Aside0.mk ep
  clear ep
  have j0 : (0 : Int) ≤ (j : Int) := by omega
  have j1 : (j : Int) < 12 := by omega
  
  
  go_enter Try.func9, Try.ntmps9
  go_wp2_with fail
  refine (MK.out _).mono ?_
  rintro e w1 ⟨rfl, hb1⟩
  have B1 := Aside0.mk hb1
  clear hb1
  go_wp2_with fail
  refine (enc_fr F _ HW.out HS.out).mono ?_
  rintro e w2 ⟨base, v, rfl, R⟩
  have B2 := Aside0.mk (below_then B1.out B1.out.size R.bel)
  obtain ⟨g, c, cur, rfl, hh, hg, hll, hcur⟩ := R.block (by rw [BL.out]; omega)
  have hc0 : w2.cell? ⟨g, j, none⟩ = some (.int .u8 p) := (blk_cell hh j).trans (by rw [hcur j HJ.out, EP.out])
  have hf0 := blk_frozen hh j
  obtain ⟨A', c', hv, hr, hc, -⟩ := R.slice
  simp only [Value.slice.injEq] at hv
  obtain ⟨-, -, rfl⟩ := hv
  have HC := Aside0.mk hc
  have HH := Aside0.mk hh
  have HCU := Aside0.mk hcur
  have HG := Aside0.mk (Nat.le_trans B1.out.size hg)
  have HG1 := Aside0.mk hg
  clear R hr hc hh hg hll hcur hb
  rw [BL.out]
  go_wp2_with fail
  have B3 := Aside0.mk (show Below w.heap.size w (w2.setCell ⟨g, j, none⟩ (.int .u8 (bits .xor .u8 p 0))) from B2.out.setCell HG.out _)
  refine (dec_lit (some ⟨g, 0, none⟩) c 12 (F.bytes.set j (bits .xor .u8 p 0)) _ (by rw [List.length_set, BL.out]) (reads_block (blk_set HH.out j (.int .u8 (bits .xor .u8 p 0))) _ (by rw [List.length_set, BL.out]; omega) (cells_set HCU.out j _ HJ.out)) (by rw [List.length_set]; exact HC.out) (OB.out.set j _ XR.out.1 XR.out.2) DE.out).mono ?_
  rintro e w3 ⟨he, hb⟩
  obtain rfl : e = .returned (.tuple #[.agg #[.int .u8 F.k, .int .u8 F.l, .int .u16 F.s, .int .u8 F.a, .int .u8 F.b, .int .u32 F.y], .int .u16 0]) := he
  have B4 := Aside0.mk (below_alloc (below_then B3.out B3.out.size hb) (.cells #[.int .u8 F.k, .int .u8 F.l, .int .u16 F.s, .int .u8 F.a, .int .u8 F.b, .int .u32 F.y] 25))
  clear hb hc0 hf0
  go_wp2_with fail
  refine (known_calls _).mono ?_
  rintro e w4 ⟨rfl, hb⟩
  have B5 := Aside0.mk (below_then B4.out B4.out.size hb)
  clear hb
  go_wp2
  go_ret
  exact ⟨rfl, B5.out⟩
set_option maxHeartbeats 4000000 in
set_option maxRecDepth 100000 in
theorem bends_12x (k l s a b y q x : Int) (w : World) (F : Fr) (MK : Aside0 (∀ w : World, Calls Try.prog 13 #[.int .u8 k, .int .u8 l, .int .u16 s, .int .u8 a, .int .u8 b, .int .u32 y] w fun e w' => e = .returned (.agg #[.int .u8 F.k, .int .u8 F.l, .int .u16 F.s, .int .u8 F.a, .int .u8 F.b, .int .u32 F.y]) ∧ Below w.heap.size w w')) (HW : Aside0 F.wf) (HS : Aside0 (F.sound = true)) (BL : Aside0 (F.bytes.length = 12)) (q0 : 0 ≤ q) (q1 : q ≤ 255) (x0 : 0 ≤ x) (x1 : x ≤ 255) (hx : ¬ x = 0) :
    Calls Try.prog 9 #[.int .u8 k, .int .u8 l, .int .u16 s, .int .u8 a, .int .u8 b, .int .u32 y, .int .u8 q, .int .u8 x] w fun e w' => e = .returned (.bool true) ∧ Below w.heap.size w w' := by
  obtain ⟨j, hj, hjk⟩ : ∃ j : Nat, j < 12 ∧ q % 12 = (j : Int) := ⟨(q % 12).toNat, by omega, by omega⟩
  have OB := Aside0.mk (oct_bytes HW.out)
  have HJ : Aside0 (j < F.bytes.length) := Aside0.mk (by rw [BL.out]; exact hj)
  have DE := Aside0.mk (bends_none HW.out j HJ.out x x0 x1 hx)
  have hb := OB.out.getD j
  obtain ⟨p, ep⟩ : ∃ p, F.bytes.getD j 0 = p := ⟨_, rfl⟩
  rw [ep] at hb DE
  have XR := Aside0.mk (xor8_range hb.1 hb.2 x0 x1)
  have EP := Aside0.mk ep
  clear ep
  have j0 : (0 : Int) ≤ (j : Int) := by omega
  have j1 : (j : Int) < 12 := by omega
  have ex : (x == 0) = false := beq_eq_false_iff_ne.mpr hx
  clear hx
  go_enter Try.func9, Try.ntmps9
  go_wp2_with fail
  refine (MK.out _).mono ?_
  rintro e w1 ⟨rfl, hb1⟩
  have B1 := Aside0.mk hb1
  clear hb1
  go_wp2_with fail
  refine (enc_fr F _ HW.out HS.out).mono ?_
  rintro e w2 ⟨base, v, rfl, R⟩
  have B2 := Aside0.mk (below_then B1.out B1.out.size R.bel)
  obtain ⟨g, c, cur, rfl, hh, hg, hll, hcur⟩ := R.block (by rw [BL.out]; omega)
  have hc0 : w2.cell? ⟨g, j, none⟩ = some (.int .u8 p) := (blk_cell hh j).trans (by rw [hcur j HJ.out, EP.out])
  have hf0 := blk_frozen hh j
  obtain ⟨A', c', hv, hr, hc, -⟩ := R.slice
  simp only [Value.slice.injEq] at hv
  obtain ⟨-, -, rfl⟩ := hv
  have HC := Aside0.mk hc
  have HH := Aside0.mk hh
  have HCU := Aside0.mk hcur
  have HG := Aside0.mk (Nat.le_trans B1.out.size hg)
  have HG1 := Aside0.mk hg
  clear R hr hc hh hg hll hcur hb
  rw [BL.out]
  go_wp2_with fail
  have B3 := Aside0.mk (show Below w.heap.size w (w2.setCell ⟨g, j, none⟩ (.int .u8 (bits .xor .u8 p x))) from B2.out.setCell HG.out _)
  refine (dec_lit (some ⟨g, 0, none⟩) c 12 (F.bytes.set j (bits .xor .u8 p x)) _ (by rw [List.length_set, BL.out]) (reads_block (blk_set HH.out j (.int .u8 (bits .xor .u8 p x))) _ (by rw [List.length_set, BL.out]; omega) (cells_set HCU.out j _ HJ.out)) (by rw [List.length_set]; exact HC.out) (OB.out.set j _ XR.out.1 XR.out.2) DE.out).mono ?_
  rintro e w3 ⟨he, hb⟩
  obtain rfl : e = .returned (.tuple #[.agg #[.int .u8 0, .int .u8 0, .int .u16 0, .int .u8 0, .int .u8 0, .int .u32 0], .int .u16 30]) := he
  have B4 := Aside0.mk (below_alloc (below_then B3.out B3.out.size hb) (.cells #[.int .u8 0, .int .u8 0, .int .u16 0, .int .u8 0, .int .u8 0, .int .u32 0] 25))
  clear hb hc0 hf0
  go_wp2_with fail
  refine (known_calls _).mono ?_
  rintro e w4 ⟨rfl, hb⟩
  have B5 := Aside0.mk (below_then B4.out B4.out.size hb)
  clear hb
  go_wp2
  go_ret
  exact ⟨rfl, B5.out⟩
theorem wireBends_term (k l s a b y q x : Int) (w : World) (hk : (Lit.int .u8 k).wf = true) (hl : (Lit.int .u8 l).wf = true) (hs : (Lit.int .u16 s).wf = true) (ha : (Lit.int .u8 a).wf = true) (hb : (Lit.int .u8 b).wf = true) (hy : (Lit.int .u32 y).wf = true) (hq : (Lit.int .u8 q).wf = true) (hx : (Lit.int .u8 x).wf = true) :
    Calls Try.prog 9 #[.int .u8 k, .int .u8 l, .int .u16 s, .int .u8 a, .int .u8 b, .int .u32 y, .int .u8 q, .int .u8 x] w fun e w' => e = .returned (.bool true) ∧ Below w.heap.size w w' := by
  obtain ⟨k0, k1⟩ := lo8 hk
  obtain ⟨l0, l1⟩ := lo8 hl
  obtain ⟨s0, s1⟩ := lo16 hs
  obtain ⟨a0, a1⟩ := lo8 ha
  obtain ⟨b0, b1⟩ := lo8 hb
  obtain ⟨y0, y1⟩ := lo32 hy
  obtain ⟨q0, q1⟩ := lo8 hq
  obtain ⟨x0, x1⟩ := lo8 hx
  obtain ⟨F, hF⟩ : ∃ F, mk k l s a b y = F := ⟨_, rfl⟩
  have MK := Aside0.mk (fun (w : World) => make_fr k l s a b y w k0 k1 l0 l1 s0 s1 a0 a1 b0 b1 y0 y1 F hF)
  have HW := Aside0.mk (hF ▸ mk_wf k0 k1 l0 l1 s0 s1 a0 a1 b0 b1 y0 y1 : F.wf)
  have HS := Aside0.mk (hF ▸ mk_sound k0 a0 b0 : F.sound = true)
  have BL := bytes_len F
  by_cases h1 : F.k = 1
  · rw [if_pos h1] at BL
    by_cases h2 : x = 0
    · subst h2; exact bends_12z k l s a b y q w F MK HW HS (Aside0.mk BL) q0 q1
    · exact bends_12x k l s a b y q x w F MK HW HS (Aside0.mk BL) q0 q1 x0 x1 h2
  · rw [if_neg h1] at BL
    by_cases h2 : x = 0
    · subst h2; exact bends_6z k l s a b y q w F MK HW HS (Aside0.mk BL) q0 q1
    · exact bends_6x k l s a b y q x w F MK HW HS (Aside0.mk BL) q0 q1 x0 x1 h2
end Go.Proofs.Ytamaemlhnkabcaa.Own
