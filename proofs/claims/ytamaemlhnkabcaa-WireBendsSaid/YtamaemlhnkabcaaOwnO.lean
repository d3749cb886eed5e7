/- WireBack (layer 3). -/
import Derived.Test.YtamaemlhnkabcaaOwnL
namespace Go.Proofs.Ytamaemlhnkabcaa.Own
open Go.RowKit Go.Proofs.Ytamaemlhnkabcaa.Crc Go.Proofs.Ytamaemlhnkabcaa.PWireRefuses Go.Proofs.YtamaemlhnkabcaaW.PrintWords Go.Proofs.YtamaemlhnkabcaaW.PrintLast Go.Proofs.YtamaemlhnkabcaaW.PrintMore
set_option linter.unusedVariables false
set_option linter.unusedSimpArgs false

attribute [local go_sem high] eqA25
theorem dec_lit (A : Option Addr) (c n : Nat) (l : List Int) (w : World) (hn : l.length = n) (hr : ReadsInt w .u8 A l.length l) (hc : l.length ≤ c) (ho : Oct l) {o : Option Fr} (hd : dec l = o) :
    Calls Try.prog 19 #[.slice A n c] w (Back w (Fr.or o) (code o)) := by
  subst hn; subst hd
  exact dec_calls A c l w hr hc ho
theorem one_reads {W : World} {g : Nat} {a : Int} (h : W.heap[g]? = some (.cells #[.int .u8 a] 5 (0, 0))) : ReadsInt W .u8 (some ⟨g, 0, none⟩) 1 [a] :=
  reads_block h [a] (by simp) (by
    intro k hk
    have hk : k < 1 := hk
    match k, hk with
    | 0, _ => rfl)
theorem At.grown {W W1 : World} {g : Nat} {F : Fr} {row : Option Nat} (h : At W g F) (hg : W.grownBy W1 row) (hne : row ≠ some g) : At W1 g F := Box.grown h hg hne
set_option maxHeartbeats 4000000 in
set_option maxRecDepth 100000 in
theorem back_6 (k l s a b y x : Int) (w : World) (F : Fr) (MK : Aside0 (∀ w : World, Calls Try.prog 13 #[.int .u8 k, .int .u8 l, .int .u16 s, .int .u8 a, .int .u8 b, .int .u32 y] w fun e w' => e = .returned (.agg #[.int .u8 F.k, .int .u8 F.l, .int .u16 F.s, .int .u8 F.a, .int .u8 F.b, .int .u32 F.y]) ∧ Below w.heap.size w w')) (HW : Aside0 F.wf) (HS : Aside0 (F.sound = true)) (BL : Aside0 (F.bytes.length = 6)) (OX : Aside0 (Oct [x])) :
    Calls Try.prog 8 #[.int .u8 k, .int .u8 l, .int .u16 s, .int .u8 a, .int .u8 b, .int .u32 y, .int .u8 x] w fun e w' => e = .returned (.bool true) ∧ Below w.heap.size w w' := by
  obtain ⟨i5, hi5, hs5⟩ := infoE5
  have CT : Aside0 (∀ (A : Option Addr) (c : Nat), 6 ≤ c → ∀ W : World, (Instr.slice 27 (.slice A 6 c) none (some (.int .i64 5)) none).run Try.prog W = .ok (.slice A 5 c) W) := Aside0.mk (fun A c hc W => cut_to 27 5 .i64 Try.underlying27 hi5 A 6 c 5 (by omega) (by omega) hc W)
  clear hi5 hs5
  have DE := Aside0.mk (dec_enc HW.out HS.out)
  have OB := Aside0.mk (oct_bytes HW.out)
  have L7 : Aside0 (([] ++ F.bytes ++ [x]).length = 7) := Aside0.mk (by rw [List.nil_append, List.length_append, BL.out]; rfl)
  have LN : Aside0 (([] : List Int).length + F.bytes.length ≤ 1000000) := Aside0.mk (by rw [BL.out]; decide)
  have LM : Aside0 (([] ++ F.bytes).length + 1 ≤ 1000000) := Aside0.mk (by rw [List.nil_append, BL.out]; decide)
  go_enter Try.func8, Try.ntmps8
  go_wp2_with fail
  refine (MK.out _).mono ?_
  rintro e w1 ⟨rfl, hb⟩
  have B1 := Aside0.mk (below_alloc hb (.cells #[.int .u8 F.k, .int .u8 F.l, .int .u16 F.s, .int .u8 F.a, .int .u8 F.b, .int .u32 F.y] 25))
  have X1 := Aside0.mk (show At (w1.alloc (.cells #[.int .u8 F.k, .int .u8 F.l, .int .u16 F.s, .int .u8 F.a, .int .u8 F.b, .int .u32 F.y] 25)) w1.heap.size F from blk_new _ _)
  clear hb
  go_wp2_with fail
  refine (enc_fr F _ HW.out HS.out).mono ?_
  rintro e w2 ⟨base, v, rfl, R⟩
  obtain ⟨A, c, rfl, hr, hc, hnc⟩ := R.slice
  obtain ⟨ad, rfl, _⟩ := hr.2.2 (by rw [BL.out]; omega)
  have HR := Aside0.mk hr
  have HC := Aside0.mk hc
  have B2 := Aside0.mk (below_then B1.out B1.out.size R.bel)
  have X2 := Aside0.mk (X1.out.below R.bel)
  clear R hr hc hnc
  rw [BL.out]
  go_wp2_with fail
  refine (dec_lit (some ad) c 6 F.bytes _ BL.out HR.out HC.out OB.out DE.out).mono ?_
  rintro e w3 ⟨he, hb⟩
  obtain rfl : e = .returned (.tuple #[.agg #[.int .u8 F.k, .int .u8 F.l, .int .u16 F.s, .int .u8 F.a, .int .u8 F.b, .int .u32 F.y], .int .u16 0]) := he
  have B3 := Aside0.mk (below_alloc (below_then B2.out B2.out.size hb) (.cells #[.int .u8 F.k, .int .u8 F.l, .int .u16 F.s, .int .u8 F.a, .int .u8 F.b, .int .u32 F.y] 25))
  have X3 := Aside0.mk (show At (w3.alloc (.cells #[.int .u8 F.k, .int .u8 F.l, .int .u16 F.s, .int .u8 F.a, .int .u8 F.b, .int .u32 F.y] 25)) w1.heap.size F from blk_below (X2.out.below hb) (below_alloc (Below.refl _ _) _))
  have Y3 := Aside0.mk (show At (w3.alloc (.cells #[.int .u8 F.k, .int .u8 F.l, .int .u16 F.s, .int .u8 F.a, .int .u8 F.b, .int .u32 F.y] 25)) w3.heap.size F from blk_new _ _)
  have HR3 := Aside0.mk (show ReadsInt (w3.alloc (.cells #[.int .u8 F.k, .int .u8 F.l, .int .u16 F.s, .int .u8 F.a, .int .u8 F.b, .int .u32 F.y] 25)) .u8 (some ad) F.bytes.length F.bytes from (HR.out.below hb).below (below_alloc (Below.refl _ _) _))
  clear hb
  have C5 : ∀ W : World, (Instr.slice 27 (.slice (some ad) 6 c) none (some (.int .i64 5)) none).run Try.prog W = .ok (.slice (some ad) 5 c) W := fun W => CT.out (some ad) c (by have := HC.out; rwa [BL.out] at this) W
  go_wp2_with fail
  clear C5
  refine (dec_other (some ad) 5 c _ (by omega) (by omega) (by omega)).mono ?_
  rintro e w4 ⟨he, hb⟩
  obtain rfl : e = .returned (.tuple #[.agg #[.int .u8 0, .int .u8 0, .int .u16 0, .int .u8 0, .int .u8 0, .int .u32 0], .int .u16 30]) := he
  have B4 := Aside0.mk (below_alloc (below_then B3.out B3.out.size hb) (.cells #[.int .u8 0, .int .u8 0, .int .u16 0, .int .u8 0, .int .u8 0, .int .u32 0] 25))
  have X4 := Aside0.mk (show At (w4.alloc (.cells #[.int .u8 0, .int .u8 0, .int .u16 0, .int .u8 0, .int .u8 0, .int .u32 0] 25)) w1.heap.size F from blk_below (X3.out.below hb) (below_alloc (Below.refl _ _) _))
  have Y4 := Aside0.mk (show At (w4.alloc (.cells #[.int .u8 0, .int .u8 0, .int .u16 0, .int .u8 0, .int .u8 0, .int .u32 0] 25)) w3.heap.size F from blk_below (Y3.out.below hb) (below_alloc (Below.refl _ _) _))
  have HR4 := Aside0.mk (show ReadsInt (w4.alloc (.cells #[.int .u8 0, .int .u8 0, .int .u16 0, .int .u8 0, .int .u8 0, .int .u32 0] 25)) .u8 (some ad) 6 F.bytes from BL.out ▸ ((HR3.out.below hb).below (below_alloc (Below.refl _ _) _)))
  have LN' : Aside0 (([] : List Int).length + 6 ≤ 1000000) := Aside0.mk (by decide)
  clear hb
  go_wp2_with (first
    | (at_builtin; refine append_bytes rfl _ _ rfl _ (.slice none 0 0) [] (Row.nil B4.out) (some ad) F.bytes _ _ HR4.out (fun k => by cases k) OB.out LN'.out rfl rfl ?_; intro v5 w5 R5 g5; have RA := Aside0.mk R5; have GA := Aside0.mk g5; clear R5 g5)
    | (at_builtin; have q6 := one_reads (blk_new w5 (.cells #[.int .u8 x] 5)); refine append_bytes rfl _ _ rfl _ v5 _ (RA.out.alloc (.cells #[.int .u8 x] 5)) (some ⟨w5.heap.size, 0, none⟩) [x] _ _ q6 (fun k => by cases k) OX.out LM.out rfl rfl ?_; clear q6; intro v6 w6 R6 g6; have RB := Aside0.mk R6; have GB := Aside0.mk g6; clear R6 g6; obtain ⟨A6, c6, rfl, -, -, -⟩ := RB.out.slice; rw [L7.out]))
  have X5 := Aside0.mk (X4.out.grown GA.out (by simp [Value.ownBlock]))
  have Y5 := Aside0.mk (Y4.out.grown GA.out (by simp [Value.ownBlock]))
  have SZ : w1.heap.size < w4.heap.size + 1 ∧ w3.heap.size < w4.heap.size + 1 := by
    have h1 := Box.lt X4.out
    have h2 := Box.lt Y4.out
    simp at h1 h2
    omega
  have NB := Aside0.mk (fun q (hq : q < w4.heap.size + 1) => (fun e => by have h1 := RA.out.block_ge q e; simp at h1; omega : v5.ownBlock ≠ some q))
  have X6 := Aside0.mk ((X5.out.below (below_alloc (Below.refl _ _) (.cells #[.int .u8 x] 5))).grown GB.out (NB.out _ SZ.1))
  have Y6 := Aside0.mk ((Y5.out.below (below_alloc (Below.refl _ _) (.cells #[.int .u8 x] 5))).grown GB.out (NB.out _ SZ.2))
  clear SZ
  refine (dec_other A6 7 c6 _ (by omega) (by omega) (by omega)).mono ?_
  rintro e w7 ⟨he, hb⟩
  obtain rfl : e = .returned (.tuple #[.agg #[.int .u8 0, .int .u8 0, .int .u16 0, .int .u8 0, .int .u8 0, .int .u32 0], .int .u16 30]) := he
  have B7 := Aside0.mk (below_alloc (below_then RB.out.bel RB.out.bel.size hb) (.cells #[.int .u8 0, .int .u8 0, .int .u16 0, .int .u8 0, .int .u8 0, .int .u32 0] 25))
  have X7 := Aside0.mk (show At (w7.alloc (.cells #[.int .u8 0, .int .u8 0, .int .u16 0, .int .u8 0, .int .u8 0, .int .u32 0] 25)) w1.heap.size F from blk_below (X6.out.below hb) (below_alloc (Below.refl _ _) _))
  have Y7 := Aside0.mk (show At (w7.alloc (.cells #[.int .u8 0, .int .u8 0, .int .u16 0, .int .u8 0, .int .u8 0, .int .u32 0] 25)) w3.heap.size F from blk_below (Y6.out.below hb) (below_alloc (Below.refl _ _) _))
  clear hb
  go_wp2_with fail
  refine (known_calls _).mono ?_
  rintro e w8 ⟨rfl, hb⟩
  have B8 := Aside0.mk (below_then B7.out B7.out.size hb)
  have X8 := Aside0.mk (X7.out.below hb)
  have Y8 := Aside0.mk (Y7.out.below hb)
  clear hb
  obtain ⟨d0, d1, d2, d3, d4, d5⟩ := X8.out.cells
  go_wp2_with fail
  refine (sound_calls F.k F.l F.s F.a F.b F.y _).mono ?_
  rw [show Own.sound F.k F.l F.a F.b F.y = true from HS.out]
  rintro e w9 ⟨rfl, hb⟩
  have B9 := Aside0.mk (below_then B8.out B8.out.size hb)
  clear d0 d1 d2 d3 d4 d5
  obtain ⟨d0, d1, d2, d3, d4, d5⟩ := (X8.out.below hb).cells
  obtain ⟨f0, f1, f2, f3, f4, f5⟩ := (Y8.out.below hb).cells
  clear hb
  go_wp2
  go_ret
  exact ⟨rfl, B9.out⟩
set_option maxHeartbeats 4000000 in
set_option maxRecDepth 100000 in
theorem back_12 (k l s a b y x : Int) (w : World) (F : Fr) (MK : Aside0 (∀ w : World, Calls Try.prog 13 #[.int .u8 k, .int .u8 l, .int .u16 s, .int .u8 a, .int .u8 b, .int .u32 y] w fun e w' => e = .returned (.agg #[.int .u8 F.k, .int .u8 F.l, .int .u16 F.s, .int .u8 F.a, .int .u8 F.b, .int .u32 F.y]) ∧ Below w.heap.size w w')) (HW : Aside0 F.wf) (HS : Aside0 (F.sound = true)) (BL : Aside0 (F.bytes.length = 12)) (OX : Aside0 (Oct [x])) :
    Calls Try.prog 8 #[.int .u8 k, .int .u8 l, .int .u16 s, .int .u8 a, .int .u8 b, .int .u32 y, .int .u8 x] w fun e w' => e = .returned (.bool true) ∧ Below w.heap.size w w' := by
  obtain ⟨i5, hi5, hs5⟩ := infoE5
  have CT : Aside0 (∀ (A : Option Addr) (c : Nat), 12 ≤ c → ∀ W : World, (Instr.slice 27 (.slice A 12 c) none (some (.int .i64 11)) none).run Try.prog W = .ok (.slice A 11 c) W) := Aside0.mk (fun A c hc W => cut_to 27 5 .i64 Try.underlying27 hi5 A 12 c 11 (by omega) (by omega) hc W)
  clear hi5 hs5
  have DE := Aside0.mk (dec_enc HW.out HS.out)
  have OB := Aside0.mk (oct_bytes HW.out)
  have L7 : Aside0 (([] ++ F.bytes ++ [x]).length = 13) := Aside0.mk (by rw [List.nil_append, List.length_append, BL.out]; rfl)
  have LN : Aside0 (([] : List Int).length + F.bytes.length ≤ 1000000) := Aside0.mk (by rw [BL.out]; decide)
  have LM : Aside0 (([] ++ F.bytes).length + 1 ≤ 1000000) := Aside0.mk (by rw [List.nil_append, BL.out]; decide)
  go_enter Try.func8, Try.ntmps8
  go_wp2_with fail
  refine (MK.out _).mono ?_
  rintro e w1 ⟨rfl, hb⟩
  have B1 := Aside0.mk (below_alloc hb (.cells #[.int .u8 F.k, .int .u8 F.l, .int .u16 F.s, .int .u8 F.a, .int .u8 F.b, .int .u32 F.y] 25))
  have X1 := Aside0.mk (show At (w1.alloc (.cells #[.int .u8 F.k, .int .u8 F.l, .int .u16 F.s, .int .u8 F.a, .int .u8 F.b, .int .u32 F.y] 25)) w1.heap.size F from blk_new _ _)
  clear hb
  go_wp2_with fail
  refine (enc_fr F _ HW.out HS.out).mono ?_
  rintro e w2 ⟨base, v, rfl, R⟩
  obtain ⟨A, c, rfl, hr, hc, hnc⟩ := R.slice
  obtain ⟨ad, rfl, _⟩ := hr.2.2 (by rw [BL.out]; omega)
  have HR := Aside0.mk hr
  have HC := Aside0.mk hc
  have B2 := Aside0.mk (below_then B1.out B1.out.size R.bel)
  have X2 := Aside0.mk (X1.out.below R.bel)
  clear R hr hc hnc
  rw [BL.out]
  go_wp2_with fail
  refine (dec_lit (some ad) c 12 F.bytes _ BL.out HR.out HC.out OB.out DE.out).mono ?_
  rintro e w3 ⟨he, hb⟩
  obtain rfl : e = .returned (.tuple #[.agg #[.int .u8 F.k, .int .u8 F.l, .int .u16 F.s, .int .u8 F.a, .int .u8 F.b, .int .u32 F.y], .int .u16 0]) := he
  have B3 := Aside0.mk (below_alloc (below_then B2.out B2.out.size hb) (.cells #[.int .u8 F.k, .int .u8 F.l, .int .u16 F.s, .int .u8 F.a, .int .u8 F.b, .int .u32 F.y] 25))
  have X3 := Aside0.mk (show At (w3.alloc (.cells #[.int .u8 F.k, .int .u8 F.l, .int .u16 F.s, .int .u8 F.a, .int .u8 F.b, .int .u32 F.y] 25)) w1.heap.size F from blk_below (X2.out.below hb) (below_alloc (Below.refl _ _) _))
  have Y3 := Aside0.mk (show At (w3.alloc (.cells #[.int .u8 F.k, .int .u8 F.l, .int .u16 F.s, .int .u8 F.a, .int .u8 F.b, .int .u32 F.y] 25)) w3.heap.size F from blk_new _ _)
  have HR3 := Aside0.mk (show ReadsInt (w3.alloc (.cells #[.int .u8 F.k, .int .u8 F.l, .int .u16 F.s, .int .u8 F.a, .int .u8 F.b, .int .u32 F.y] 25)) .u8 (some ad) F.bytes.length F.bytes from (HR.out.below hb).below (below_alloc (Below.refl _ _) _))
  clear hb
  have C5 : ∀ W : World, (Instr.slice 27 (.slice (some ad) 12 c) none (some (.int .i64 11)) none).run Try.prog W = .ok (.slice (some ad) 11 c) W := fun W => CT.out (some ad) c (by have := HC.out; rwa [BL.out] at this) W
  go_wp2_with fail
  clear C5
  refine (dec_other (some ad) 11 c _ (by omega) (by omega) (by omega)).mono ?_
  rintro e w4 ⟨he, hb⟩
  obtain rfl : e = .returned (.tuple #[.agg #[.int .u8 0, .int .u8 0, .int .u16 0, .int .u8 0, .int .u8 0, .int .u32 0], .int .u16 30]) := he
  have B4 := Aside0.mk (below_alloc (below_then B3.out B3.out.size hb) (.cells #[.int .u8 0, .int .u8 0, .int .u16 0, .int .u8 0, .int .u8 0, .int .u32 0] 25))
  have X4 := Aside0.mk (show At (w4.alloc (.cells #[.int .u8 0, .int .u8 0, .int .u16 0, .int .u8 0, .int .u8 0, .int .u32 0] 25)) w1.heap.size F from blk_below (X3.out.below hb) (below_alloc (Below.refl _ _) _))
  have Y4 := Aside0.mk (show At (w4.alloc (.cells #[.int .u8 0, .int .u8 0, .int .u16 0, .int .u8 0, .int .u8 0, .int .u32 0] 25)) w3.heap.size F from blk_below (Y3.out.below hb) (below_alloc (Below.refl _ _) _))
  have HR4 := Aside0.mk (show ReadsInt (w4.alloc (.cells #[.int .u8 0, .int .u8 0, .int .u16 0, .int .u8 0, .int .u8 0, .int .u32 0] 25)) .u8 (some ad) 12 F.bytes from BL.out ▸ ((HR3.out.below hb).below (below_alloc (Below.refl _ _) _)))
  have LN' : Aside0 (([] : List Int).length + 12 ≤ 1000000) := Aside0.mk (by decide)
  clear hb
  go_wp2_with (first
    | (at_builtin; refine append_bytes rfl _ _ rfl _ (.slice none 0 0) [] (Row.nil B4.out) (some ad) F.bytes _ _ HR4.out (fun k => by cases k) OB.out LN'.out rfl rfl ?_; intro v5 w5 R5 g5; have RA := Aside0.mk R5; have GA := Aside0.mk g5; clear R5 g5)
    | (at_builtin; have q6 := one_reads (blk_new w5 (.cells #[.int .u8 x] 5)); refine append_bytes rfl _ _ rfl _ v5 _ (RA.out.alloc (.cells #[.int .u8 x] 5)) (some ⟨w5.heap.size, 0, none⟩) [x] _ _ q6 (fun k => by cases k) OX.out LM.out rfl rfl ?_; clear q6; intro v6 w6 R6 g6; have RB := Aside0.mk R6; have GB := Aside0.mk g6; clear R6 g6; obtain ⟨A6, c6, rfl, -, -, -⟩ := RB.out.slice; rw [L7.out]))
  have X5 := Aside0.mk (X4.out.grown GA.out (by simp [Value.ownBlock]))
  have Y5 := Aside0.mk (Y4.out.grown GA.out (by simp [Value.ownBlock]))
  have SZ : w1.heap.size < w4.heap.size + 1 ∧ w3.heap.size < w4.heap.size + 1 := by
    have h1 := Box.lt X4.out
    have h2 := Box.lt Y4.out
    simp at h1 h2
    omega
  have NB := Aside0.mk (fun q (hq : q < w4.heap.size + 1) => (fun e => by have h1 := RA.out.block_ge q e; simp at h1; omega : v5.ownBlock ≠ some q))
  have X6 := Aside0.mk ((X5.out.below (below_alloc (Below.refl _ _) (.cells #[.int .u8 x] 5))).grown GB.out (NB.out _ SZ.1))
  have Y6 := Aside0.mk ((Y5.out.below (below_alloc (Below.refl _ _) (.cells #[.int .u8 x] 5))).grown GB.out (NB.out _ SZ.2))
  clear SZ
  refine (dec_other A6 13 c6 _ (by omega) (by omega) (by omega)).mono ?_
  rintro e w7 ⟨he, hb⟩
  obtain rfl : e = .returned (.tuple #[.agg #[.int .u8 0, .int .u8 0, .int .u16 0, .int .u8 0, .int .u8 0, .int .u32 0], .int .u16 30]) := he
  have B7 := Aside0.mk (below_alloc (below_then RB.out.bel RB.out.bel.size hb) (.cells #[.int .u8 0, .int .u8 0, .int .u16 0, .int .u8 0, .int .u8 0, .int .u32 0] 25))
  have X7 := Aside0.mk (show At (w7.alloc (.cells #[.int .u8 0, .int .u8 0, .int .u16 0, .int .u8 0, .int .u8 0, .int .u32 0] 25)) w1.heap.size F from blk_below (X6.out.below hb) (below_alloc (Below.refl _ _) _))
  have Y7 := Aside0.mk (show At (w7.alloc (.cells #[.int .u8 0, .int .u8 0, .int .u16 0, .int .u8 0, .int .u8 0, .int .u32 0] 25)) w3.heap.size F from blk_below (Y6.out.below hb) (below_alloc (Below.refl _ _) _))
  clear hb
  go_wp2_with fail
  refine (known_calls _).mono ?_
  rintro e w8 ⟨rfl, hb⟩
  have B8 := Aside0.mk (below_then B7.out B7.out.size hb)
  have X8 := Aside0.mk (X7.out.below hb)
  have Y8 := Aside0.mk (Y7.out.below hb)
  clear hb
  obtain ⟨d0, d1, d2, d3, d4, d5⟩ := X8.out.cells
  go_wp2_with fail
  refine (sound_calls F.k F.l F.s F.a F.b F.y _).mono ?_
  rw [show Own.sound F.k F.l F.a F.b F.y = true from HS.out]
  rintro e w9 ⟨rfl, hb⟩
  have B9 := Aside0.mk (below_then B8.out B8.out.size hb)
  clear d0 d1 d2 d3 d4 d5
  obtain ⟨d0, d1, d2, d3, d4, d5⟩ := (X8.out.below hb).cells
  obtain ⟨f0, f1, f2, f3, f4, f5⟩ := (Y8.out.below hb).cells
  clear hb
  go_wp2
  go_ret
  exact ⟨rfl, B9.out⟩
theorem wireBack_term (k l s a b y x : Int) (w : World) (hk : (Lit.int .u8 k).wf = true) (hl : (Lit.int .u8 l).wf = true) (hs : (Lit.int .u16 s).wf = true) (ha : (Lit.int .u8 a).wf = true) (hb : (Lit.int .u8 b).wf = true) (hy : (Lit.int .u32 y).wf = true) (hx : (Lit.int .u8 x).wf = true) :
    Calls Try.prog 8 #[.int .u8 k, .int .u8 l, .int .u16 s, .int .u8 a, .int .u8 b, .int .u32 y, .int .u8 x] w fun e w' => e = .returned (.bool true) ∧ Below w.heap.size w w' := by
  obtain ⟨k0, k1⟩ := lo8 hk
  obtain ⟨l0, l1⟩ := lo8 hl
  obtain ⟨s0, s1⟩ := lo16 hs
  obtain ⟨a0, a1⟩ := lo8 ha
  obtain ⟨b0, b1⟩ := lo8 hb
  obtain ⟨y0, y1⟩ := lo32 hy
  obtain ⟨x0, x1⟩ := lo8 hx
  obtain ⟨F, hF⟩ : ∃ F, mk k l s a b y = F := ⟨_, rfl⟩
  have MK := Aside0.mk (fun (w : World) => make_fr k l s a b y w k0 k1 l0 l1 s0 s1 a0 a1 b0 b1 y0 y1 F hF)
  have HW := Aside0.mk (hF ▸ mk_wf k0 k1 l0 l1 s0 s1 a0 a1 b0 b1 y0 y1 : F.wf)
  have HS := Aside0.mk (hF ▸ mk_sound k0 a0 b0 : F.sound = true)
  have BL := bytes_len F
  by_cases h1 : F.k = 1
  · rw [if_pos h1] at BL
    exact back_12 k l s a b y x w F MK HW HS (Aside0.mk BL) (Aside0.mk (Oct.cons x0 x1 Oct.nil))
  · rw [if_neg h1] at BL
    exact back_6 k l s a b y x w F MK HW HS (Aside0.mk BL) (Aside0.mk (Oct.cons x0 x1 Oct.nil))
end Go.Proofs.Ytamaemlhnkabcaa.Own
