/- known (layer 3). -/
import Derived.Test.YtamaemlhnkabcaaOwnF
namespace Go.Proofs.Ytamaemlhnkabcaa.Own
open Go.RowKit Go.Proofs.Ytamaemlhnkabcaa.Crc Go.Proofs.Ytamaemlhnkabcaa.PWireRefuses Go.Proofs.YtamaemlhnkabcaaW.PrintWords Go.Proofs.YtamaemlhnkabcaaW.PrintLast Go.Proofs.YtamaemlhnkabcaaW.PrintMore
set_option linter.unusedVariables false
set_option linter.unusedSimpArgs false


theorem enc_known : enc 2 1 258 0 0 0 = [2, 1, 1, 2] ++ [crcI [2, 1, 1, 2] / 256, crcI [2, 1, 1, 2] % 256] := by decide +kernel
theorem dec_known : dec (enc 2 1 258 0 0 0) = some ⟨2, 1, 258, 0, 0, 0⟩ := by decide +kernel
theorem snd_known : sound 2 1 0 0 0 = true := by decide +kernel
theorem str_known : strOfNums [2, 1, 1, 2] = { data := #[2, 1, 1, 2] } := by decide +kernel
/-- An answered frame lies in a block. -/
theorem At.new (W : World) (k l s a b y : Int) : Box (W.alloc (.cells #[.int .u8 k, .int .u8 l, .int .u16 s, .int .u8 a, .int .u8 b, .int .u32 y] 25)) W.heap.size k l s a b y := blk_new _ _
set_option maxHeartbeats 4000000 in
set_option maxRecDepth 100000 in
theorem known_calls (w : World) : Calls Try.prog 15 #[] w fun e w' => e = .returned (.bool true) ∧ Below w.heap.size w w' := by
  obtain ⟨i5, hi5, hs5⟩ := infoE5
  have CT : Aside0 (∀ (A : Option Addr) (c : Nat), 6 ≤ c → ∀ W : World, (Instr.slice 27 (.slice A 6 c) none (some (.int .i64 4)) none).run Try.prog W = .ok (.slice A 4 c) W) := Aside0.mk (fun A c hc W => cut_to 27 5 .i64 Try.underlying27 hi5 A 6 c 4 (by omega) (by omega) hc W)
  clear hi5 hs5
  have DK := Aside0.mk dec_known
  go_enter Try.func15, Try.ntmps15
  go_wp2_with fail
  refine (enc_short 2 1 258 0 0 0 _ (by omega) (by omega) (by omega) (by omega) (by omega) (by omega) (by omega) (by omega) (by omega) (by omega) (by omega) (by omega) snd_known (by omega)).mono ?_
  rintro e w1 ⟨base, v, rfl, R⟩
  obtain ⟨A, c, rfl, hr, hc, _⟩ := R.slice
  have R1 := Aside0.mk R
  have HR := Aside0.mk hr
  have HC := Aside0.mk hc
  clear R hr hc
  go_wp2_with fail
  refine (dec_calls A c _ _ HR.out HC.out R1.out.2.2.2.2).mono ?_
  rw [DK.out]
  rintro e w2 ⟨he, hb⟩
  obtain rfl : e = .returned (.tuple #[.agg #[.int .u8 2, .int .u8 1, .int .u16 258, .int .u8 0, .int .u8 0, .int .u32 0], .int .u16 0]) := he
  have B2 := Aside0.mk (below_then R1.out.2.1 R1.out.2.1.size hb)
  have HR2 := Aside0.mk (HR.out.below hb)
  clear hb
  go_wp2_with fail
  refine (dec_other none 0 0 _ (by omega) (by omega) (by omega)).mono ?_
  rintro e w3 ⟨he, hb⟩
  obtain rfl : e = .returned (.tuple #[.agg #[.int .u8 0, .int .u8 0, .int .u16 0, .int .u8 0, .int .u8 0, .int .u32 0], .int .u16 30]) := he
  have B3 := Aside0.mk (below_then (below_alloc B2.out (.cells #[.int .u8 2, .int .u8 1, .int .u16 258, .int .u8 0, .int .u8 0, .int .u32 0] 25)) (by have := B2.out.size; simp; omega) hb)
  have X3 := Aside0.mk ((At.new w2 2 1 258 0 0 0).below hb)
  have HR3 := Aside0.mk ((HR2.out.below (below_alloc (Below.refl _ _) (.cells #[.int .u8 2, .int .u8 1, .int .u16 258, .int .u8 0, .int .u8 0, .int .u32 0] 25))).below hb)
  have HR4 : Aside0 (∀ o : Obj, ReadsInt (w3.alloc o) .u8 A 4 [2, 1, 1, 2]) := Aside0.mk (fun o => by
    have h := (HR3.out.below (below_alloc (Below.refl _ _) o))
    rw [enc_known] at h
    refine ⟨rfl, by omega, fun _ => ?_⟩
    obtain ⟨ad, e, hc⟩ := h.2.2 (by simp)
    refine ⟨ad, e, fun j hj => (hc j (by simp; omega)).trans ?_⟩
    match j, hj with
    | 0, _ => rfl
    | 1, _ => rfl
    | 2, _ => rfl
    | 3, _ => rfl)
  clear hb
  have S5 : ∀ o : Obj, (convert 27 9 (.slice A 4 c)).run Try.prog (w3.alloc o) = .ok (.string { data := #[2, 1, 1, 2] }) (w3.alloc o) := fun o => by
    rw [string_of_reads Try.underlying27 Try.underlying5 Try.underlying9 (h := HR4.out o), str_known]
  have L6 : (enc 2 1 258 0 0 0).length = 6 := by rw [enc_known]; rfl
  have C5 : ∀ W : World, (Instr.slice 27 (.slice A 6 c) none (some (.int .i64 4)) none).run Try.prog W = .ok (.slice A 4 c) W := fun W => CT.out A c (by have := HC.out; rwa [L6] at this) W
  rw [L6]
  obtain ⟨d0, d1, d2, d3, d4, d5⟩ := (X3.out.below (below_alloc (Below.refl _ _) (.cells #[.int .u8 0, .int .u8 0, .int .u16 0, .int .u8 0, .int .u8 0, .int .u32 0] 25))).cells
  go_wp2_with fail
  refine (sound_calls 2 1 258 0 0 0 _).mono ?_
  rw [snd_known]
  rintro e w4 ⟨rfl, hb⟩
  have B4 := Aside0.mk (below_then (below_alloc B3.out (.cells #[.int .u8 0, .int .u8 0, .int .u16 0, .int .u8 0, .int .u8 0, .int .u32 0] 25)) (by have := B3.out.size; simp; omega) hb)
  clear hb d0 d1 d2 d3 d4 d5
  go_wp2
  go_ret
  exact ⟨rfl, B4.out⟩
end Go.Proofs.Ytamaemlhnkabcaa.Own
