/- Sound and Encode of any frame (layer 3). -/
import Derived.Test.YtamaemlhnkabcaaOwnB
import Derived.Deep.RegionHeld3
namespace Go.Proofs.Ytamaemlhnkabcaa.Own
open Go.RowKit Go.Proofs.Ytamaemlhnkabcaa.Crc Go.Proofs.Ytamaemlhnkabcaa.PWireRefuses Go.Proofs.YtamaemlhnkabcaaW.PrintWords Go.Proofs.YtamaemlhnkabcaaW.PrintLast Go.Proofs.YtamaemlhnkabcaaW.PrintMore
set_option linter.unusedVariables false
set_option linter.unusedSimpArgs false

/-- May the frame be? -/
def sound (k l a b y : Int) : Bool := (wire_Sound.f k l 0 a b y).getD false
theorem sound_f (k l s a b y : Int) : wire_Sound.f k l s a b y = some (sound k l a b y) := by
  unfold sound wire_Sound.f
  repeat' split
  all_goals rfl
theorem sound_calls (k l s a b y : Int) (w : World) : Calls Try.prog 16 #[.agg #[.int .u8 k, .int .u8 l, .int .u16 s, .int .u8 a, .int .u8 b, .int .u32 y]] w fun e w' => e = .returned (.bool (sound k l a b y)) ∧ Below w.heap.size w w' :=
  wire_Sound.calls k l s a b y _ w (sound_f k l s a b y)

/-- A frame's bytes ahead of the check; and whole. -/
def pre (k l s a b y : Int) : List Int := [k, l] ++ [s / 256, s % 256] ++ (if k = 1 then [a, b] ++ [y / 16777216, y / 65536 % 256, y / 256 % 256, y % 256] else [])
def enc (k l s a b y : Int) : List Int := pre k l s a b y ++ [crcI (pre k l s a b y) / 256, crcI (pre k l s a b y) % 256]

theorem Row.lift {w0 w w' : World} {base : Nat} {v : Value} {l : List Int} (h : Row w w' base v l) (hb : Below w0.heap.size w0 w) : Row w0 w' base v l :=
  ⟨h.1, below_then hb hb.size h.2.1, Nat.le_trans hb.size h.2.2.1, h.2.2.2.1, h.2.2.2.2⟩
theorem Row.bel {w0 w : World} {base : Nat} {v : Value} {l : List Int} (h : Row w0 w base v l) : Below w0.heap.size w0 w := h.2.1

/-- Encode's answer: these bytes in a row of the call's own, and no error. -/
def Enc (w : World) (l : List Int) (e : Ending) (w' : World) : Prop := ∃ base v, e = .returned (.tuple #[v, .int .u16 0]) ∧ Row w w' base v l

/-- The frame in the function's own variable. -/
def Box (W : World) (g : Nat) (k l s a b y : Int) : Prop := W.heap[g]? = some (.cells #[.int .u8 k, .int .u8 l, .int .u16 s, .int .u8 a, .int .u8 b, .int .u32 y] 25 (0, 0))
theorem Box.cells {W : World} {g : Nat} {k l s a b y : Int} (h : Box W g k l s a b y) : W.cell? ⟨g, 0, none⟩ = some (.int .u8 k) ∧ W.cell? ⟨g, 1, none⟩ = some (.int .u8 l) ∧ W.cell? ⟨g, 2, none⟩ = some (.int .u16 s) ∧ W.cell? ⟨g, 3, none⟩ = some (.int .u8 a) ∧ W.cell? ⟨g, 4, none⟩ = some (.int .u8 b) ∧ W.cell? ⟨g, 5, none⟩ = some (.int .u32 y) :=
  ⟨(blk_cell h 0).trans rfl, (blk_cell h 1).trans rfl, (blk_cell h 2).trans rfl, (blk_cell h 3).trans rfl, (blk_cell h 4).trans rfl, (blk_cell h 5).trans rfl⟩
theorem Box.below {W W1 : World} {g : Nat} {k l s a b y : Int} (h : Box W g k l s a b y) (hb : Below W.heap.size W W1) : Box W1 g k l s a b y := blk_below h hb
theorem Box.grown {W W1 : World} {g : Nat} {k l s a b y : Int} {row : Option Nat} (h : Box W g k l s a b y) (hg : W.grownBy W1 row) (hne : row ≠ some g) : Box W1 g k l s a b y := blk_grown h hg (fun e => hne e.symm)
theorem Box.lt {W : World} {g : Nat} {k l s a b y : Int} (h : Box W g k l s a b y) : g < W.heap.size := blk_lt h

set_option maxHeartbeats 4000000 in
set_option maxRecDepth 100000 in
theorem enc_no (k l s a b y : Int) (w : World) (h : sound k l a b y = false) :
    Calls Try.prog 14 #[.agg #[.int .u8 k, .int .u8 l, .int .u16 s, .int .u8 a, .int .u8 b, .int .u32 y]] w fun e w' => e = .returned (.tuple #[.slice none 0 0, .int .u16 1]) ∧ Below w.heap.size w w' := by
  have S := Aside0.mk h
  clear h
  go_enter Try.func14, Try.ntmps14
  go_wp2_with fail
  refine (sound_calls k l s a b y _).mono ?_
  rw [S.out]
  rintro e w1 ⟨rfl, hb⟩
  have B1 := Aside0.mk (below_then (below_alloc (Below.refl w.heap.size w) _) (by simp) hb)
  clear hb
  go_wp2
  go_ret2
  exact ⟨rfl, B1.out⟩

set_option maxHeartbeats 4000000 in
set_option maxRecDepth 100000 in
theorem enc_short (k l s a b y : Int) (w : World) (k0 : 0 ≤ k) (k1 : k ≤ 255) (l0 : 0 ≤ l) (l1 : l ≤ 255) (s0 : 0 ≤ s) (s1 : s ≤ 65535) (a0 : 0 ≤ a) (a1 : a ≤ 255) (b0 : 0 ≤ b) (b1 : b ≤ 255) (y0 : 0 ≤ y) (y1 : y ≤ 4294967295) (h : sound k l a b y = true) (hk : ¬ k = 1) :
    Calls Try.prog 14 #[.agg #[.int .u8 k, .int .u8 l, .int .u16 s, .int .u8 a, .int .u8 b, .int .u32 y]] w (Enc w (enc k l s a b y)) := by
  have S := Aside0.mk h
  have EP := Aside0.mk (show pre k l s a b y = [k, l] ++ [s / 256, s % 256] by unfold pre; rw [if_neg hk, List.append_nil])
  have e1 : (k == 1) = false := beq_eq_false_iff_ne.mpr hk
  have OK := Aside0.mk (Oct.two k0 k1 l0 l1)
  have BX0 := Aside0.mk (show Box (w.alloc (.cells #[.int .u8 k, .int .u8 l, .int .u16 s, .int .u8 a, .int .u8 b, .int .u32 y] 25)) w.heap.size k l s a b y from blk_new _ _)
  clear h hk
  go_enter Try.func14, Try.ntmps14
  go_wp2_with fail
  refine (sound_calls k l s a b y _).mono ?_
  rw [S.out]
  rintro e w1 ⟨rfl, hb⟩
  have B1 := Aside0.mk (below_then (below_alloc (Below.refl w.heap.size w) (.cells #[.int .u8 k, .int .u8 l, .int .u16 s, .int .u8 a, .int .u8 b, .int .u32 y] 25)) (by simp) hb)
  have BX1 := Aside0.mk (BX0.out.below hb)
  clear hb
  obtain ⟨c0, c1, c2, c3, c4, c5⟩ := BX1.out.cells
  obtain ⟨-, -, d2, -, -, -⟩ := (BX1.out.below (below_alloc (Below.refl _ _) (.cells #[.int .u8 k, .int .u8 l] 5))).cells
  go_wp2_with fail
  clear d2
  refine (two_calls w _ _ _ [k, l] s (Row.two B1.out k l OK.out) s0 s1 (by simp)).mono ?_
  clear c0 c1 c2 c3 c4 c5
  rintro e w2 ⟨v2, rfl, R2, g2⟩
  have BX2 := Aside0.mk ((BX1.out.below (below_alloc (Below.refl _ _) (.cells #[.int .u8 k, .int .u8 l] 5))).grown g2 (by have := BX1.out.lt; simp [Value.ownBlock]; omega))
  have RA := Aside0.mk R2
  rw [← EP.out] at RA
  clear R2 g2
  obtain ⟨c0, c1, c2, c3, c4, c5⟩ := BX2.out.cells
  go_wp2_with fail
  refine (sum_row _ _ _ _ _ RA.out).mono ?_
  clear c0 c1 c2 c3 c4 c5
  rintro e w3 ⟨rfl, hb⟩
  have RB := Aside0.mk (RA.out.below hb)
  clear hb
  have CR := Aside0.mk (crcI_range RA.out.2.2.2.2)
  go_wp2_with fail
  refine (two_calls w _ _ _ _ _ RB.out CR.out.1 CR.out.2 (by have := EP.out; rw [this]; simp)).mono ?_
  rintro e w4 ⟨v4, rfl, R4, _⟩
  have RC := Aside0.mk R4
  clear R4
  go_wp2
  go_ret2
  exact ⟨_, v4, rfl, RC.out⟩

set_option maxHeartbeats 4000000 in
set_option maxRecDepth 100000 in
theorem enc_long (k l s a b y : Int) (w : World) (k0 : 0 ≤ k) (k1 : k ≤ 255) (l0 : 0 ≤ l) (l1 : l ≤ 255) (s0 : 0 ≤ s) (s1 : s ≤ 65535) (a0 : 0 ≤ a) (a1 : a ≤ 255) (b0 : 0 ≤ b) (b1 : b ≤ 255) (y0 : 0 ≤ y) (y1 : y ≤ 4294967295) (h : sound k l a b y = true) (hk : k = 1) :
    Calls Try.prog 14 #[.agg #[.int .u8 k, .int .u8 l, .int .u16 s, .int .u8 a, .int .u8 b, .int .u32 y]] w (Enc w (enc k l s a b y)) := by
  have S := Aside0.mk h
  have EP := Aside0.mk (show pre k l s a b y = [k, l] ++ [s / 256, s % 256] ++ [a, b] ++ [y / 16777216, y / 65536 % 256, y / 256 % 256, y % 256] by unfold pre; rw [if_pos hk, List.append_assoc ([k, l] ++ [s / 256, s % 256])])
  have e1 : (k == 1) = true := beq_iff_eq.mpr hk
  have OK := Aside0.mk (Oct.two k0 k1 l0 l1)
  have OA := Aside0.mk (Oct.two a0 a1 b0 b1)
  have BX0 := Aside0.mk (show Box (w.alloc (.cells #[.int .u8 k, .int .u8 l, .int .u16 s, .int .u8 a, .int .u8 b, .int .u32 y] 25)) w.heap.size k l s a b y from blk_new _ _)
  clear h hk
  go_enter Try.func14, Try.ntmps14
  go_wp2_with fail
  refine (sound_calls k l s a b y _).mono ?_
  rw [S.out]
  rintro e w1 ⟨rfl, hb⟩
  have B1 := Aside0.mk (below_then (below_alloc (Below.refl w.heap.size w) (.cells #[.int .u8 k, .int .u8 l, .int .u16 s, .int .u8 a, .int .u8 b, .int .u32 y] 25)) (by simp) hb)
  have BX1 := Aside0.mk (BX0.out.below hb)
  clear hb
  obtain ⟨c0, c1, c2, c3, c4, c5⟩ := BX1.out.cells
  obtain ⟨-, -, d2, -, -, -⟩ := (BX1.out.below (below_alloc (Below.refl _ _) (.cells #[.int .u8 k, .int .u8 l] 5))).cells
  go_wp2_with fail
  clear d2
  refine (two_calls w1 _ _ _ [k, l] s (Row.two (Below.refl _ _) k l OK.out) s0 s1 (by simp)).mono ?_
  clear c0 c1 c2 c3 c4 c5
  rintro e w2 ⟨v2, rfl, R2, g2⟩
  have RA := Aside0.mk R2
  clear R2 g2
  obtain ⟨c0, c1, c2, c3, c4, c5⟩ := (BX1.out.below RA.out.bel).cells
  go_wp2_with fail
  go_region_held3 (fun w' => w'.cell? ⟨w.heap.size, 3, none⟩ = some (.int .u8 a) ∧ w'.cell? ⟨w.heap.size, 4, none⟩ = some (.int .u8 b) ∧ w'.cell? ⟨w.heap.size, 5, none⟩ = some (.int .u32 y))
    (first | go_keep | exact (BX1.out.below RB.out.bel).cells.2.2.2 | exact (BX1.out.below RC.out.bel).cells.2.2.2)
    (first | (refine step_two rfl _ _ rfl _ _ ([k, l] ++ [s / 256, s % 256]) (Row.alloc (Row.drew RA.out) _) w2.heap.size a b _ (two_reads (blk_new _ _)) OA.out (by simp) rfl rfl ?_; intro v3 w3 R3 g3; have RB := Aside0.mk R3; clear R3 g3) | (refine (four_calls w1 _ _ _ _ _ RB.out y0 y1 (by simp)).mono ?_; rintro e w4 ⟨v4, rfl, R4⟩; have RC := Aside0.mk R4; clear R4))
  have RD := Aside0.mk RC.out
  rw [← EP.out] at RD
  clear RA RB RC
  go_wp2_with fail
  refine (sum_row _ _ _ _ _ RD.out).mono ?_
  rintro e w5 ⟨rfl, hb⟩
  have RE := Aside0.mk (RD.out.below hb)
  clear hb
  have CR := Aside0.mk (crcI_range RD.out.2.2.2.2)
  go_wp2_with fail
  refine (two_calls w1 _ _ _ _ _ RE.out CR.out.1 CR.out.2 (by have := EP.out; rw [this]; simp)).mono ?_
  rintro e w6 ⟨v6, rfl, R6, _⟩
  have RF := Aside0.mk (R6.lift B1.out)
  clear R6
  go_wp2
  go_ret2
  exact ⟨_, v6, rfl, RF.out⟩

/-- Encode, whatever the frame. -/
theorem enc_calls (k l s a b y : Int) (w : World) (k0 : 0 ≤ k) (k1 : k ≤ 255) (l0 : 0 ≤ l) (l1 : l ≤ 255) (s0 : 0 ≤ s) (s1 : s ≤ 65535) (a0 : 0 ≤ a) (a1 : a ≤ 255) (b0 : 0 ≤ b) (b1 : b ≤ 255) (y0 : 0 ≤ y) (y1 : y ≤ 4294967295) :
    Calls Try.prog 14 #[.agg #[.int .u8 k, .int .u8 l, .int .u16 s, .int .u8 a, .int .u8 b, .int .u32 y]] w (fun e w' => if sound k l a b y = true then Enc w (enc k l s a b y) e w' else e = .returned (.tuple #[.slice none 0 0, .int .u16 1]) ∧ Below w.heap.size w w') := by
  by_cases h : sound k l a b y = true
  · simp only [h, if_true]
    by_cases hk : k = 1
    · exact enc_long k l s a b y w k0 k1 l0 l1 s0 s1 a0 a1 b0 b1 y0 y1 h hk
    · exact enc_short k l s a b y w k0 k1 l0 l1 s0 s1 a0 a1 b0 b1 y0 y1 h hk
  · have h : sound k l a b y = false := by simpa using h
    simp only [h]
    exact enc_no k l s a b y w h
end Go.Proofs.Ytamaemlhnkabcaa.Own
