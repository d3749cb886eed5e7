/- The contract of layer 6's does: whatever the call, both receivers stay receivers, and nothing of the first one falls. -/
import Derived.Test.YtcjdokddlddlhaaOwnH
import Derived.RegionTactic
namespace Go.Proofs.Ytcjdokddlddlhaa.Own
open Go.RowKit Go.Proofs.Ytcjdokddlddlhaa.PBufferOnce Go.Proofs.YtcjdokddlddlhaaW.PrintWords Go.Proofs.YtcjdokddlddlhaaW.PrintLast Go.Proofs.YtcjdokddlddlhaaW.PrintMore
set_option linter.unusedVariables false
set_option linter.unusedSimpArgs false

theorem RSt.below {w0 w w1 : World} {g : Nat} (h : RSt w0 w g) (hb : Below w.heap.size w w1) : RSt w0 w1 g := by
  obtain ⟨⟨a, b, c, hh⟩, h1, h2⟩ := h
  exact ⟨⟨a, b, c, blk_below hh hb⟩, h1, below_then h2 h2.size hb⟩

/-- What does leaves. -/
def Does (w0 : World) (g g' : Nat) (x h r : Int) (e : Ending) (w' : World) : Prop := ∃ (v : Bool) (x' h' : Int), e = .returned (.bool v) ∧ Goes x h r x' h' ∧ St w0 w' g x' h' r ∧ RSt w0 w' g'

set_option maxHeartbeats 8000000 in
set_option maxRecDepth 100000 in
theorem does_two (g g' : Nat) (x h r k m q : Int) (w0 w : World) (s : St w0 w g x h r) (s' : RSt w0 w g') (hne : g ≠ g') (x0 : 0 ≤ x) (x1 : x ≤ 9000000000000000000) (h0 : 0 ≤ h) (h1 : h ≤ r) (h2 : r ≤ 8) (k0 : 0 ≤ k) (k1 : k ≤ 255) (m0 : 0 ≤ m) (m1 : m ≤ 255) (f2 : (k % 6 == 2) = true) :
    Calls Try.prog 18 #[.pointer (some ⟨g, 0, none⟩), .pointer (some ⟨g', 0, none⟩), .agg #[.int .u8 k, .int .u8 m, .int .u16 q]] w (Does w0 g g' x h r) := by
  have S := Aside0.mk (s.below (below_alloc (Below.refl _ _) (.cells #[.int .u8 k, .int .u8 m, .int .u16 q] 40)))
  have S' := Aside0.mk (s'.below (below_alloc (Below.refl _ _) (.cells #[.int .u8 k, .int .u8 m, .int .u16 q] 40)))
  have hB := Aside0.mk (blk_new w (.cells #[.int .u8 k, .int .u8 m, .int .u16 q] 40))
  have hnb : w.heap.size ≠ g := by have := blk_lt s.1.1; omega
  clear s s'
  go_enter Try.func18, Try.ntmps18
  go_wp2_with fail
  generalize w.alloc (.cells #[.int .u8 k, .int .u8 m, .int .u16 q] 40) = W at S S' hB ⊢
  obtain ⟨a, b, c, c0, _, _, _, _⟩ := S'.out.cells
  have hb0 : W.cell? ⟨w.heap.size, 0, none⟩ = some (.int .u8 k) := (blk_cell hB.out 0).trans rfl
  have hb1 : W.cell? ⟨w.heap.size, 1, none⟩ = some (.int .u8 m) := (blk_cell hB.out 1).trans rfl
  have hb2 : W.cell? ⟨w.heap.size, 2, none⟩ = some (.int .u16 q) := (blk_cell hB.out 2).trans rfl
  clear hB
  go_quiet (fail)
  go_wp2_with fail
  go_region_with (first | (go_at_call 14; (with_reducible refine (come_any g x h r _ w0 _ (by repeat (first | exact S.out | apply St.drewN | apply St.drew)) x0 x1 h0 h1 h2).mono ?_); rintro e W2 ⟨v, x', h', rfl, hG, hs, hk⟩; have T := Aside0.mk hs; have T' := Aside0.mk (RSt.other (by repeat (first | exact S'.out | apply RSt.drewN | apply RSt.drew)) hk hs.2 (Ne.symm hne)); have hb0' := keep_cell hk hb0 hnb; have hb1' := keep_cell hk hb1 hnb; have hb2' := keep_cell hk hb2 hnb; have HG := Aside0.mk hG; clear hs hk hG) | (go_at_call 20; (with_reducible refine (rcome_calls g' _ w0 _ (by repeat (first | exact T'.out | apply RSt.drewN | apply RSt.drew))).mono ?_); rintro e W3 ⟨v2, rfl, hs', hk'⟩; have U := Aside0.mk (St.other (by repeat (first | exact T.out | apply St.drewN | apply St.drew)) hk' hs'.2.2 hne); have U' := Aside0.mk hs'; clear hs' hk'))
  all_goals
    go_wp2
    go_ret
    unfold Does
    exact ⟨_, _, _, rfl, HG.out, U.out, U'.out⟩

set_option maxHeartbeats 8000000 in
set_option maxRecDepth 100000 in
theorem does_three (g g' : Nat) (x h r k m q : Int) (w0 w : World) (s : St w0 w g x h r) (s' : RSt w0 w g') (hne : g ≠ g') (x0 : 0 ≤ x) (x1 : x ≤ 9000000000000000000) (h0 : 0 ≤ h) (h1 : h ≤ r) (h2 : r ≤ 8) (k0 : 0 ≤ k) (k1 : k ≤ 255) (m0 : 0 ≤ m) (m1 : m ≤ 255) (f2 : (k % 6 == 2) = false) (f3 : (k % 6 == 3) = true) :
    Calls Try.prog 18 #[.pointer (some ⟨g, 0, none⟩), .pointer (some ⟨g', 0, none⟩), .agg #[.int .u8 k, .int .u8 m, .int .u16 q]] w (Does w0 g g' x h r) := by
  have S := Aside0.mk (s.below (below_alloc (Below.refl _ _) (.cells #[.int .u8 k, .int .u8 m, .int .u16 q] 40)))
  have S' := Aside0.mk (s'.below (below_alloc (Below.refl _ _) (.cells #[.int .u8 k, .int .u8 m, .int .u16 q] 40)))
  have hB := Aside0.mk (blk_new w (.cells #[.int .u8 k, .int .u8 m, .int .u16 q] 40))
  have hnb : w.heap.size ≠ g := by have := blk_lt s.1.1; omega
  clear s s'
  go_enter Try.func18, Try.ntmps18
  go_wp2_with fail
  generalize w.alloc (.cells #[.int .u8 k, .int .u8 m, .int .u16 q] 40) = W at S S' hB ⊢
  obtain ⟨a, b, c, c0, _, _, _, _⟩ := S'.out.cells
  have hb0 : W.cell? ⟨w.heap.size, 0, none⟩ = some (.int .u8 k) := (blk_cell hB.out 0).trans rfl
  have hb1 : W.cell? ⟨w.heap.size, 1, none⟩ = some (.int .u8 m) := (blk_cell hB.out 1).trans rfl
  have hb2 : W.cell? ⟨w.heap.size, 2, none⟩ = some (.int .u16 q) := (blk_cell hB.out 2).trans rfl
  clear hB
  go_quiet (fail)
  go_wp2_with (first | (go_at_call 16; (with_reducible refine (free_goes g x h r w0 _ (by repeat (first | exact S.out | apply St.drewN | apply St.drew)) h0 h1 h2).mono ?_); rintro e W2 ⟨v, x', h', rfl, hG, hs, hk⟩; have T := Aside0.mk hs; have T' := Aside0.mk (RSt.other (by repeat (first | exact S'.out | apply RSt.drewN | apply RSt.drew)) hk hs.2 (Ne.symm hne)); have hb0' := keep_cell hk hb0 hnb; have hb1' := keep_cell hk hb1 hnb; have hb2' := keep_cell hk hb2 hnb; have HG := Aside0.mk hG; clear hs hk hG) | (go_at_call 21; (with_reducible refine (rfree_calls g' w0 _ (by repeat (first | exact T'.out | apply RSt.drewN | apply RSt.drew))).mono ?_); rintro e W3 ⟨v2, rfl, hs', hk'⟩; have U := Aside0.mk (St.other (by repeat (first | exact T.out | apply St.drewN | apply St.drew)) hk' hs'.2.2 hne); have U' := Aside0.mk hs'; clear hs' hk'))
  go_ret
  unfold Does
  exact ⟨_, _, _, rfl, HG.out, U.out, U'.out⟩

set_option maxHeartbeats 8000000 in
set_option maxRecDepth 100000 in
theorem does_four (g g' : Nat) (x h r k m q : Int) (w0 w : World) (s : St w0 w g x h r) (s' : RSt w0 w g') (hne : g ≠ g') (x0 : 0 ≤ x) (x1 : x ≤ 9000000000000000000) (h0 : 0 ≤ h) (h1 : h ≤ r) (h2 : r ≤ 8) (k0 : 0 ≤ k) (k1 : k ≤ 255) (m0 : 0 ≤ m) (m1 : m ≤ 255) (f2 : (k % 6 == 2) = false) (f3 : (k % 6 == 3) = false) (f4 : (k % 6 == 4) = true) :
    Calls Try.prog 18 #[.pointer (some ⟨g, 0, none⟩), .pointer (some ⟨g', 0, none⟩), .agg #[.int .u8 k, .int .u8 m, .int .u16 q]] w (Does w0 g g' x h r) := by
  have S := Aside0.mk (s.below (below_alloc (Below.refl _ _) (.cells #[.int .u8 k, .int .u8 m, .int .u16 q] 40)))
  have S' := Aside0.mk (s'.below (below_alloc (Below.refl _ _) (.cells #[.int .u8 k, .int .u8 m, .int .u16 q] 40)))
  have hB := Aside0.mk (blk_new w (.cells #[.int .u8 k, .int .u8 m, .int .u16 q] 40))
  have hnb : w.heap.size ≠ g := by have := blk_lt s.1.1; omega
  clear s s'
  go_enter Try.func18, Try.ntmps18
  go_wp2_with fail
  generalize w.alloc (.cells #[.int .u8 k, .int .u8 m, .int .u16 q] 40) = W at S S' hB ⊢
  obtain ⟨a, b, c, c0, _, _, _, _⟩ := S'.out.cells
  have hb0 : W.cell? ⟨w.heap.size, 0, none⟩ = some (.int .u8 k) := (blk_cell hB.out 0).trans rfl
  have hb1 : W.cell? ⟨w.heap.size, 1, none⟩ = some (.int .u8 m) := (blk_cell hB.out 1).trans rfl
  have hb2 : W.cell? ⟨w.heap.size, 2, none⟩ = some (.int .u16 q) := (blk_cell hB.out 2).trans rfl
  clear hB
  go_quiet (fail)
  go_wp2_with (first | (go_at_call 11; (with_reducible refine (hear_any g x h r _ w0 _ (by repeat (first | exact S.out | apply St.drewN | apply St.drew)) x0 h0 h1 h2).mono ?_); rintro e W2 ⟨v, x', h', rfl, hG, hs, hk⟩; have T := Aside0.mk hs; have T' := Aside0.mk (RSt.other (by repeat (first | exact S'.out | apply RSt.drewN | apply RSt.drew)) hk hs.2 (Ne.symm hne)); have hb0' := keep_cell hk hb0 hnb; have hb1' := keep_cell hk hb1 hnb; have hb2' := keep_cell hk hb2 hnb; have HG := Aside0.mk hG; clear hs hk hG) | (go_at_call 22; (with_reducible refine (rhear_calls g' _ w0 _ (by repeat (first | exact T'.out | apply RSt.drewN | apply RSt.drew))).mono ?_); rintro e W3 ⟨v2, rfl, hs', hk'⟩; have U := Aside0.mk (St.other (by repeat (first | exact T.out | apply St.drewN | apply St.drew)) hk' hs'.2.2 hne); have U' := Aside0.mk hs'; clear hs' hk'))
  go_ret
  unfold Does
  exact ⟨_, _, _, rfl, HG.out, U.out, U'.out⟩

set_option maxHeartbeats 8000000 in
set_option maxRecDepth 100000 in
theorem does_five (g g' : Nat) (x h r k m q : Int) (w0 w : World) (s : St w0 w g x h r) (s' : RSt w0 w g') (hne : g ≠ g') (x0 : 0 ≤ x) (x1 : x ≤ 9000000000000000000) (h0 : 0 ≤ h) (h1 : h ≤ r) (h2 : r ≤ 8) (k0 : 0 ≤ k) (k1 : k ≤ 255) (m0 : 0 ≤ m) (m1 : m ≤ 255) (f2 : (k % 6 == 2) = false) (f3 : (k % 6 == 3) = false) (f4 : (k % 6 == 4) = false) (f5 : (k % 6 == 5) = true) :
    Calls Try.prog 18 #[.pointer (some ⟨g, 0, none⟩), .pointer (some ⟨g', 0, none⟩), .agg #[.int .u8 k, .int .u8 m, .int .u16 q]] w (Does w0 g g' x h r) := by
  have S := Aside0.mk (s.below (below_alloc (Below.refl _ _) (.cells #[.int .u8 k, .int .u8 m, .int .u16 q] 40)))
  have S' := Aside0.mk (s'.below (below_alloc (Below.refl _ _) (.cells #[.int .u8 k, .int .u8 m, .int .u16 q] 40)))
  have hB := Aside0.mk (blk_new w (.cells #[.int .u8 k, .int .u8 m, .int .u16 q] 40))
  have hnb : w.heap.size ≠ g := by have := blk_lt s.1.1; omega
  clear s s'
  go_enter Try.func18, Try.ntmps18
  go_wp2_with fail
  generalize w.alloc (.cells #[.int .u8 k, .int .u8 m, .int .u16 q] 40) = W at S S' hB ⊢
  obtain ⟨a, b, c, c0, _, _, _, _⟩ := S'.out.cells
  have hb0 : W.cell? ⟨w.heap.size, 0, none⟩ = some (.int .u8 k) := (blk_cell hB.out 0).trans rfl
  have hb1 : W.cell? ⟨w.heap.size, 1, none⟩ = some (.int .u8 m) := (blk_cell hB.out 1).trans rfl
  have hb2 : W.cell? ⟨w.heap.size, 2, none⟩ = some (.int .u16 q) := (blk_cell hB.out 2).trans rfl
  clear hB
  go_quiet (fail)
  go_wp2_with fail
  go_region_with (first | (go_at_call 11; (with_reducible refine (hear_any g x h r _ w0 _ (by repeat (first | exact S.out | apply St.drewN | apply St.drew)) x0 h0 h1 h2).mono ?_); rintro e W2 ⟨v, x', h', rfl, hG, hs, hk⟩; have T := Aside0.mk hs; have T' := Aside0.mk (RSt.other (by repeat (first | exact S'.out | apply RSt.drewN | apply RSt.drew)) hk hs.2 (Ne.symm hne)); have hb0' := keep_cell hk hb0 hnb; have hb1' := keep_cell hk hb1 hnb; have hb2' := keep_cell hk hb2 hnb; have HG := Aside0.mk hG; clear hs hk hG) | (go_at_call 22; (with_reducible refine (rhear_calls g' _ w0 _ (by repeat (first | exact T'.out | apply RSt.drewN | apply RSt.drew))).mono ?_); rintro e W3 ⟨v2, rfl, hs', hk'⟩; have U := Aside0.mk (St.other (by repeat (first | exact T.out | apply St.drewN | apply St.drew)) hk' hs'.2.2 hne); have U' := Aside0.mk hs'; clear hs' hk'))
  all_goals
    go_wp2
    go_ret
    unfold Does
    exact ⟨_, _, _, rfl, HG.out, U.out, U'.out⟩

set_option maxHeartbeats 8000000 in
set_option maxRecDepth 100000 in
theorem does_rest (g g' : Nat) (x h r k m q : Int) (w0 w : World) (s : St w0 w g x h r) (s' : RSt w0 w g') (hne : g ≠ g') (x0 : 0 ≤ x) (x1 : x ≤ 9000000000000000000) (h0 : 0 ≤ h) (h1 : h ≤ r) (h2 : r ≤ 8) (k0 : 0 ≤ k) (k1 : k ≤ 255) (m0 : 0 ≤ m) (m1 : m ≤ 255) (f2 : (k % 6 == 2) = false) (f3 : (k % 6 == 3) = false) (f4 : (k % 6 == 4) = false) (f5 : (k % 6 == 5) = false) :
    Calls Try.prog 18 #[.pointer (some ⟨g, 0, none⟩), .pointer (some ⟨g', 0, none⟩), .agg #[.int .u8 k, .int .u8 m, .int .u16 q]] w (Does w0 g g' x h r) := by
  have S := Aside0.mk (s.below (below_alloc (Below.refl _ _) (.cells #[.int .u8 k, .int .u8 m, .int .u16 q] 40)))
  have S' := Aside0.mk (s'.below (below_alloc (Below.refl _ _) (.cells #[.int .u8 k, .int .u8 m, .int .u16 q] 40)))
  have hB := Aside0.mk (blk_new w (.cells #[.int .u8 k, .int .u8 m, .int .u16 q] 40))
  have hnb : w.heap.size ≠ g := by have := blk_lt s.1.1; omega
  clear s s'
  go_enter Try.func18, Try.ntmps18
  go_wp2_with fail
  generalize w.alloc (.cells #[.int .u8 k, .int .u8 m, .int .u16 q] 40) = W at S S' hB ⊢
  obtain ⟨a, b, c, c0, _, _, _, _⟩ := S'.out.cells
  have hb0 : W.cell? ⟨w.heap.size, 0, none⟩ = some (.int .u8 k) := (blk_cell hB.out 0).trans rfl
  have hb1 : W.cell? ⟨w.heap.size, 1, none⟩ = some (.int .u8 m) := (blk_cell hB.out 1).trans rfl
  have hb2 : W.cell? ⟨w.heap.size, 2, none⟩ = some (.int .u16 q) := (blk_cell hB.out 2).trans rfl
  clear hB
  go_quiet (fail)
  go_wp2_with (first | (go_at_call 14; (with_reducible refine (come_any g x h r _ w0 _ (by repeat (first | exact S.out | apply St.drewN | apply St.drew)) x0 x1 h0 h1 h2).mono ?_); rintro e W2 ⟨v, x', h', rfl, hG, hs, hk⟩; have T := Aside0.mk hs; have T' := Aside0.mk (RSt.other (by repeat (first | exact S'.out | apply RSt.drewN | apply RSt.drew)) hk hs.2 (Ne.symm hne)); have hb0' := keep_cell hk hb0 hnb; have hb1' := keep_cell hk hb1 hnb; have hb2' := keep_cell hk hb2 hnb; have HG := Aside0.mk hG; clear hs hk hG) | (go_at_call 20; (with_reducible refine (rcome_calls g' _ w0 _ (by repeat (first | exact T'.out | apply RSt.drewN | apply RSt.drew))).mono ?_); rintro e W3 ⟨v2, rfl, hs', hk'⟩; have U := Aside0.mk (St.other (by repeat (first | exact T.out | apply St.drewN | apply St.drew)) hk' hs'.2.2 hne); have U' := Aside0.mk hs'; clear hs' hk'))
  go_ret
  unfold Does
  exact ⟨_, _, _, rfl, HG.out, U.out, U'.out⟩

theorem does_calls (g g' : Nat) (x h r k m q : Int) (w0 w : World) (s : St w0 w g x h r) (s' : RSt w0 w g') (hne : g ≠ g') (x0 : 0 ≤ x) (x1 : x ≤ 9000000000000000000) (h0 : 0 ≤ h) (h1 : h ≤ r) (h2 : r ≤ 8) (k0 : 0 ≤ k) (k1 : k ≤ 255) (m0 : 0 ≤ m) (m1 : m ≤ 255) :
    Calls Try.prog 18 #[.pointer (some ⟨g, 0, none⟩), .pointer (some ⟨g', 0, none⟩), .agg #[.int .u8 k, .int .u8 m, .int .u16 q]] w (Does w0 g g' x h r) := by
  by_cases c2 : k % 6 = 2
  · exact does_two g g' x h r k m q w0 w s s' hne x0 x1 h0 h1 h2 k0 k1 m0 m1 (by simp [c2])
  · by_cases c3 : k % 6 = 3
    · exact does_three g g' x h r k m q w0 w s s' hne x0 x1 h0 h1 h2 k0 k1 m0 m1 (by simp [c2]) (by simp [c3])
    · by_cases c4 : k % 6 = 4
      · exact does_four g g' x h r k m q w0 w s s' hne x0 x1 h0 h1 h2 k0 k1 m0 m1 (by simp [c2]) (by simp [c3]) (by simp [c4])
      · by_cases c5 : k % 6 = 5
        · exact does_five g g' x h r k m q w0 w s s' hne x0 x1 h0 h1 h2 k0 k1 m0 m1 (by simp [c2]) (by simp [c3]) (by simp [c4]) (by simp [c5])
        · exact does_rest g g' x h r k m q w0 w s s' hne x0 x1 h0 h1 h2 k0 k1 m0 m1 (by simp [c2]) (by simp [c3]) (by simp [c4]) (by simp [c5])
end Go.Proofs.Ytcjdokddlddlhaa.Own
