/- WireApart (layer 3). -/
import Derived.Test.YtamaemlhnkabcaaOwnK
import Derived.Deep.RegionHeld3
namespace Go.Proofs.Ytamaemlhnkabcaa.Own
open Go.RowKit Go.Proofs.Ytamaemlhnkabcaa.Crc Go.Proofs.Ytamaemlhnkabcaa.PWireRefuses Go.Proofs.YtamaemlhnkabcaaW.PrintWords Go.Proofs.YtamaemlhnkabcaaW.PrintLast Go.Proofs.YtamaemlhnkabcaaW.PrintMore
set_option linter.unusedVariables false
set_option linter.unusedSimpArgs false

attribute [local go_sem high] eqA25
theorem At.below {W W1 : World} {g : Nat} {F : Fr} (h : At W g F) (hb : Below W.heap.size W W1) : At W1 g F := blk_below h hb
theorem At.drew {W : World} {g : Nat} {F : Fr} (h : At W g F) : At W.drew g F := h.below (Below.refl _ _).drew
theorem cells2 {W : World} {g q : Nat} {F G : Fr} (h : At W g F) (h' : At W q G) : W.cell? ⟨g, 0, none⟩ = some (.int .u8 F.k) ∧ W.cell? ⟨g, 1, none⟩ = some (.int .u8 F.l) ∧ W.cell? ⟨g, 2, none⟩ = some (.int .u16 F.s) ∧ W.cell? ⟨g, 3, none⟩ = some (.int .u8 F.a) ∧ W.cell? ⟨g, 4, none⟩ = some (.int .u8 F.b) ∧ W.cell? ⟨g, 5, none⟩ = some (.int .u32 F.y) ∧ W.cell? ⟨q, 0, none⟩ = some (.int .u8 G.k) ∧ W.cell? ⟨q, 1, none⟩ = some (.int .u8 G.l) ∧ W.cell? ⟨q, 2, none⟩ = some (.int .u16 G.s) ∧ W.cell? ⟨q, 3, none⟩ = some (.int .u8 G.a) ∧ W.cell? ⟨q, 4, none⟩ = some (.int .u8 G.b) ∧ W.cell? ⟨q, 5, none⟩ = some (.int .u32 G.y) := by
  obtain ⟨c0, c1, c2, c3, c4, c5⟩ := h.cells
  obtain ⟨d0, d1, d2, d3, d4, d5⟩ := h'.cells
  exact ⟨c0, c1, c2, c3, c4, c5, d0, d1, d2, d3, d4, d5⟩
theorem apart_held {W : World} {g q : Nat} {F G : Fr} {A A' : Option Addr} {cp cp' : Nat} (h : At W g F) (h' : At W q G) (r : ReadsInt W .u8 A F.bytes.length F.bytes) (r' : ReadsInt W .u8 A' G.bytes.length G.bytes) :
    W.cell? ⟨g, 0, none⟩ = some (.int .u8 F.k) ∧ W.cell? ⟨g, 1, none⟩ = some (.int .u8 F.l) ∧ W.cell? ⟨g, 2, none⟩ = some (.int .u16 F.s) ∧ W.cell? ⟨g, 3, none⟩ = some (.int .u8 F.a) ∧ W.cell? ⟨g, 4, none⟩ = some (.int .u8 F.b) ∧ W.cell? ⟨g, 5, none⟩ = some (.int .u32 F.y) ∧ W.cell? ⟨q, 0, none⟩ = some (.int .u8 G.k) ∧ W.cell? ⟨q, 1, none⟩ = some (.int .u8 G.l) ∧ W.cell? ⟨q, 2, none⟩ = some (.int .u16 G.s) ∧ W.cell? ⟨q, 3, none⟩ = some (.int .u8 G.a) ∧ W.cell? ⟨q, 4, none⟩ = some (.int .u8 G.b) ∧ W.cell? ⟨q, 5, none⟩ = some (.int .u32 G.y) ∧ (convert 27 9 (.slice A F.bytes.length cp)).run Try.prog W = .ok (.string (strOfNums F.bytes)) W ∧ (convert 27 9 (.slice A' G.bytes.length cp')).run Try.prog W = .ok (.string (strOfNums G.bytes)) W := by
  obtain ⟨c0, c1, c2, c3, c4, c5⟩ := h.cells
  obtain ⟨d0, d1, d2, d3, d4, d5⟩ := h'.cells
  exact ⟨c0, c1, c2, c3, c4, c5, d0, d1, d2, d3, d4, d5, string_of_reads Try.underlying27 Try.underlying5 Try.underlying9 (h := r), string_of_reads Try.underlying27 Try.underlying5 Try.underlying9 (h := r')⟩
set_option maxHeartbeats 4000000 in
set_option maxRecDepth 100000 in
theorem apart_walk (a b c d s t x y : Int) (w : World) (a0 : 0 ≤ a) (a1 : a ≤ 255) (b0 : 0 ≤ b) (b1 : b ≤ 255) (c0 : 0 ≤ c) (c1 : c ≤ 255) (d0 : 0 ≤ d) (d1 : d ≤ 255) (s0 : 0 ≤ s) (s1 : s ≤ 65535) (t0 : 0 ≤ t) (t1 : t ≤ 65535) (x0 : 0 ≤ x) (x1 : x ≤ 4294967295) (y0 : 0 ≤ y) (y1 : y ≤ 4294967295) (F G : Fr) (hF : mk a b s c d x = F) (hG : mk c d t a b y = G)
    (q : Bool) (hq1 : ((strOfNums F.bytes).toList == (strOfNums G.bytes).toList) = q) (hq2 : (F.k == G.k && (F.l == G.l && (F.s == G.s && (F.a == G.a && (F.b == G.b && (F.y == G.y)))))) = q) :
    Calls Try.prog 3 #[.int .u8 a, .int .u8 b, .int .u8 c, .int .u8 d, .int .u16 s, .int .u16 t, .int .u32 x, .int .u32 y] w fun e w' => e = .returned (.bool true) ∧ Below w.heap.size w w' := by
  have WF := Aside0.mk (hF ▸ mk_wf a0 a1 b0 b1 s0 s1 c0 c1 d0 d1 x0 x1 : F.wf)
  have WG := Aside0.mk (hG ▸ mk_wf c0 c1 d0 d1 t0 t1 a0 a1 b0 b1 y0 y1 : G.wf)
  have SF := Aside0.mk (hF ▸ mk_sound a0 c0 d0 : F.sound = true)
  have SG := Aside0.mk (hG ▸ mk_sound c0 a0 b0 : G.sound = true)
  have MF := Aside0.mk (fun w : World => make_fr a b s c d x w a0 a1 b0 b1 s0 s1 c0 c1 d0 d1 x0 x1 F hF)
  have MG := Aside0.mk (fun w : World => make_fr c d t a b y w c0 c1 d0 d1 t0 t1 a0 a1 b0 b1 y0 y1 G hG)
  have Q1 := Aside0.mk hq1
  have Q2 := Aside0.mk hq2
  clear hF hG hq1 hq2 a0 a1 b0 b1 c0 c1 d0 d1 s0 s1 t0 t1 x0 x1 y0 y1
  go_enter Try.func3, Try.ntmps3
  go_wp2_with fail
  refine (MF.out _).mono ?_
  rintro e w1 ⟨rfl, hb⟩
  have B1 := Aside0.mk (below_alloc hb (.cells #[.int .u8 F.k, .int .u8 F.l, .int .u16 F.s, .int .u8 F.a, .int .u8 F.b, .int .u32 F.y] 25))
  have X1 := Aside0.mk (show At (w1.alloc (.cells #[.int .u8 F.k, .int .u8 F.l, .int .u16 F.s, .int .u8 F.a, .int .u8 F.b, .int .u32 F.y] 25)) w1.heap.size F from blk_new _ _)
  clear hb
  go_wp2_with fail
  refine (MG.out _).mono ?_
  rintro e w2 ⟨rfl, hb⟩
  have B2 := Aside0.mk (below_alloc (below_then B1.out B1.out.size hb) (.cells #[.int .u8 G.k, .int .u8 G.l, .int .u16 G.s, .int .u8 G.a, .int .u8 G.b, .int .u32 G.y] 25))
  have X2 := Aside0.mk (show At (w2.alloc (.cells #[.int .u8 G.k, .int .u8 G.l, .int .u16 G.s, .int .u8 G.a, .int .u8 G.b, .int .u32 G.y] 25)) w1.heap.size F from blk_below (X1.out.below hb) (below_alloc (Below.refl _ _) _))
  have Y2 := Aside0.mk (show At (w2.alloc (.cells #[.int .u8 G.k, .int .u8 G.l, .int .u16 G.s, .int .u8 G.a, .int .u8 G.b, .int .u32 G.y] 25)) w2.heap.size G from blk_new _ _)
  clear hb
  obtain ⟨c0, c1, c2, c3, c4, c5⟩ := X2.out.cells
  go_wp2_with fail
  refine (enc_fr F _ WF.out SF.out).mono ?_
  rintro e w3 ⟨base, v, rfl, R⟩
  obtain ⟨A, cp, rfl, hr, -, -⟩ := R.slice
  have HF := Aside0.mk hr
  have B3 := Aside0.mk (below_then B2.out B2.out.size R.bel)
  have X3 := Aside0.mk (X2.out.below R.bel)
  have Y3 := Aside0.mk (Y2.out.below R.bel)
  clear R hr c0 c1 c2 c3 c4 c5
  obtain ⟨c0, c1, c2, c3, c4, c5⟩ := Y3.out.cells
  go_wp2_with fail
  refine (enc_fr G _ WG.out SG.out).mono ?_
  rintro e w4 ⟨base', v', rfl, R⟩
  obtain ⟨A', cp', rfl, hr, -, -⟩ := R.slice
  have HG4 := Aside0.mk hr
  have HF4 := Aside0.mk (HF.out.below R.bel)
  have B4 := Aside0.mk (below_then B3.out B3.out.size R.bel)
  have X4 := Aside0.mk (X3.out.below R.bel)
  have Y4 := Aside0.mk (Y3.out.below R.bel)
  clear R hr c0 c1 c2 c3 c4 c5
  go_wp2_with fail
  go_region_held3 (fun W => W.cell? ⟨w1.heap.size, 0, none⟩ = some (.int .u8 F.k) ∧ W.cell? ⟨w1.heap.size, 1, none⟩ = some (.int .u8 F.l) ∧ W.cell? ⟨w1.heap.size, 2, none⟩ = some (.int .u16 F.s) ∧ W.cell? ⟨w1.heap.size, 3, none⟩ = some (.int .u8 F.a) ∧ W.cell? ⟨w1.heap.size, 4, none⟩ = some (.int .u8 F.b) ∧ W.cell? ⟨w1.heap.size, 5, none⟩ = some (.int .u32 F.y) ∧ W.cell? ⟨w2.heap.size, 0, none⟩ = some (.int .u8 G.k) ∧ W.cell? ⟨w2.heap.size, 1, none⟩ = some (.int .u8 G.l) ∧ W.cell? ⟨w2.heap.size, 2, none⟩ = some (.int .u16 G.s) ∧ W.cell? ⟨w2.heap.size, 3, none⟩ = some (.int .u8 G.a) ∧ W.cell? ⟨w2.heap.size, 4, none⟩ = some (.int .u8 G.b) ∧ W.cell? ⟨w2.heap.size, 5, none⟩ = some (.int .u32 G.y) ∧ (convert 27 9 (.slice A F.bytes.length cp)).run Try.prog W = .ok (.string (strOfNums F.bytes)) W ∧ (convert 27 9 (.slice A' G.bytes.length cp')).run Try.prog W = .ok (.string (strOfNums G.bytes)) W)
    (first | (with_reducible exact apart_held X5.out Y5.out HF5.out HG5.out) | (with_reducible exact apart_held (At.drew X4.out) (At.drew Y4.out) (HF4.out.below (Below.refl _ _).drew) (HG4.out.below (Below.refl _ _).drew)))
    (first | (go_at_call 15; refine (known_calls _).mono ?_; rintro e w5 ⟨rfl, hb⟩; have B5 := Aside0.mk (below_then B4.out.drew B4.out.drew.size hb); have X5 := Aside0.mk (At.below (At.drew X4.out) hb); have Y5 := Aside0.mk (At.below (At.drew Y4.out) hb); have HF5 := Aside0.mk ((HF4.out.below (Below.refl _ _).drew).below hb); have HG5 := Aside0.mk ((HG4.out.below (Below.refl _ _).drew).below hb); clear hb))
  all_goals (rw [Q1.out, Q2.out, beq_self_eq_true q]; rename_i hHeld; clear hHeld; go_wp2; go_ret; exact ⟨rfl, B5.out⟩)
theorem str_list {l m : List Int} (hl : Oct l) (hm : Oct m) (h : (strOfNums l).toList = (strOfNums m).toList) : l = m := by
  rw [ByteArray.toList_eq, ByteArray.toList_eq] at h
  exact str_inj hl hm (ByteArray.ext (Array.ext' h))
theorem wireApart_term (a b c d s t x y : Int) (w : World) (ha : (Lit.int .u8 a).wf = true) (hb : (Lit.int .u8 b).wf = true) (hc : (Lit.int .u8 c).wf = true) (hd : (Lit.int .u8 d).wf = true) (hs : (Lit.int .u16 s).wf = true) (ht : (Lit.int .u16 t).wf = true) (hx : (Lit.int .u32 x).wf = true) (hy : (Lit.int .u32 y).wf = true) :
    Calls Try.prog 3 #[.int .u8 a, .int .u8 b, .int .u8 c, .int .u8 d, .int .u16 s, .int .u16 t, .int .u32 x, .int .u32 y] w fun e w' => e = .returned (.bool true) ∧ Below w.heap.size w w' := by
  have h := lo8 ha
  have h2 := lo8 hb
  have h3 := lo8 hc
  have h4 := lo8 hd
  have h5 := lo16 hs
  have h6 := lo16 ht
  have h7 := lo32 hx
  have h8 := lo32 hy
  obtain ⟨F, hF⟩ : ∃ F, mk a b s c d x = F := ⟨_, rfl⟩
  obtain ⟨G, hG⟩ : ∃ G, mk c d t a b y = G := ⟨_, rfl⟩
  refine apart_walk a b c d s t x y w h.1 h.2 h2.1 h2.2 h3.1 h3.2 h4.1 h4.2 h5.1 h5.2 h6.1 h6.2 h7.1 h7.2 h8.1 h8.2 F G hF hG (decide (F = G)) ?_ ?_
  · have wF : F.wf := hF ▸ mk_wf h.1 h.2 h2.1 h2.2 h5.1 h5.2 h3.1 h3.2 h4.1 h4.2 h7.1 h7.2
    have wG : G.wf := hG ▸ mk_wf h3.1 h3.2 h4.1 h4.2 h6.1 h6.2 h.1 h.2 h2.1 h2.2 h8.1 h8.2
    have sF : F.sound = true := hF ▸ mk_sound h.1 h3.1 h4.1
    have sG : G.sound = true := hG ▸ mk_sound h3.1 h.1 h2.1
    by_cases e : F = G
    · subst e; simp
    · rw [decide_eq_false e]
      exact beq_eq_false_iff_ne.mpr (fun k => e (bytes_inj wF sF wG sG (str_list (oct_bytes wF) (oct_bytes wG) k)))
  · obtain ⟨k1, l1, s1, a1, b1, y1⟩ := F
    obtain ⟨k2, l2, s2, a2, b2, y2⟩ := G
    clear hF hG
    rw [Bool.eq_iff_iff]
    simp [Fr.mk.injEq]
end Go.Proofs.Ytamaemlhnkabcaa.Own
