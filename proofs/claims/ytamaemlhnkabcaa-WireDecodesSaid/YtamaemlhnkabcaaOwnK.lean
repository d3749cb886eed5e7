/- A sound frame comes back from its bytes; strings of bytes (layer 3). -/
import Derived.Test.YtamaemlhnkabcaaOwnJ
namespace Go.Proofs.Ytamaemlhnkabcaa.Own
open Go.RowKit Go.Proofs.Ytamaemlhnkabcaa.Crc Go.Proofs.Ytamaemlhnkabcaa.PWireRefuses Go.Proofs.YtamaemlhnkabcaaW.PrintWords Go.Proofs.YtamaemlhnkabcaaW.PrintLast Go.Proofs.YtamaemlhnkabcaaW.PrintMore
set_option linter.unusedVariables false
set_option linter.unusedSimpArgs false


theorem bytes_short {F : Fr} (hk : ¬ F.k = 1) : F.bytes = [F.k, F.l, F.s / 256, F.s % 256] ++ [crcI [F.k, F.l, F.s / 256, F.s % 256] / 256, crcI [F.k, F.l, F.s / 256, F.s % 256] % 256] := by
  unfold Fr.bytes enc pre
  rw [if_neg hk, List.append_nil]
  rfl
theorem bytes_long {F : Fr} (hk : F.k = 1) : F.bytes = [F.k, F.l, F.s / 256, F.s % 256, F.a, F.b, F.y / 16777216, F.y / 65536 % 256, F.y / 256 % 256, F.y % 256] ++ [crcI [F.k, F.l, F.s / 256, F.s % 256, F.a, F.b, F.y / 16777216, F.y / 65536 % 256, F.y / 256 % 256, F.y % 256] / 256, crcI [F.k, F.l, F.s / 256, F.s % 256, F.a, F.b, F.y / 16777216, F.y / 65536 % 256, F.y / 256 % 256, F.y % 256] % 256] := by
  unfold Fr.bytes enc pre
  rw [if_pos hk]
  rfl
theorem oct_short {F : Fr} (hw : F.wf) : Oct [F.k, F.l, F.s / 256, F.s % 256] := by
  obtain ⟨⟨k0, k1⟩, ⟨l0, l1⟩, ⟨s0, s1⟩, ⟨a0, a1⟩, ⟨b0, b1⟩, y0, y1⟩ := hw
  exact Oct.cons k0 k1 (Oct.cons l0 l1 (Oct.cons (by omega) (by omega) (Oct.cons (by omega) (by omega) Oct.nil)))
theorem oct_long {F : Fr} (hw : F.wf) : Oct [F.k, F.l, F.s / 256, F.s % 256, F.a, F.b, F.y / 16777216, F.y / 65536 % 256, F.y / 256 % 256, F.y % 256] := by
  obtain ⟨⟨k0, k1⟩, ⟨l0, l1⟩, ⟨s0, s1⟩, ⟨a0, a1⟩, ⟨b0, b1⟩, y0, y1⟩ := hw
  exact Oct.cons k0 k1 (Oct.cons l0 l1 (Oct.cons (by omega) (by omega) (Oct.cons (by omega) (by omega) (Oct.cons a0 a1 (Oct.cons b0 b1 (Oct.cons (by omega) (by omega) (Oct.cons (by omega) (by omega) (Oct.cons (by omega) (by omega) (Oct.cons (by omega) (by omega) Oct.nil)))))))))
theorem oct_check {l : List Int} (ho : Oct l) : Oct (l ++ [crcI l / 256, crcI l % 256]) := by
  obtain ⟨h0, h1⟩ := crcI_range ho
  exact ho.append (Oct.two (by omega) (by omega) (by omega) (by omega))
theorem oct_bytes {F : Fr} (hw : F.wf) : Oct F.bytes := by
  by_cases hk : F.k = 1
  · rw [bytes_long hk]; exact oct_check (oct_long hw)
  · rw [bytes_short hk]; exact oct_check (oct_short hw)
/-- A sound frame comes back from its bytes. -/
theorem dec_enc {F : Fr} (hw : F.wf) (hs : F.sound = true) : dec F.bytes = some F := by
  have hS := sound_iff.1 hs
  by_cases hk : F.k = 1
  · rw [bytes_long hk]
    obtain ⟨h0, h1⟩ := crcI_range (oct_long hw)
    generalize hc : crcI [F.k, F.l, F.s / 256, F.s % 256, F.a, F.b, F.y / 16777216, F.y / 65536 % 256, F.y / 256 % 256, F.y % 256] = c at h0 h1 ⊢
    show dec12 F.k F.l (F.s / 256) (F.s % 256) F.a F.b (F.y / 16777216) (F.y / 65536 % 256) (F.y / 256 % 256) (F.y % 256) (c / 256) (c % 256) = some F
    have e1 : F.s / 256 * 256 + F.s % 256 = F.s := by omega
    have e2 : F.y / 16777216 * 16777216 + F.y / 65536 % 256 * 65536 + F.y / 256 % 256 * 256 + F.y % 256 = F.y := by
      have := hw.2.2.2.2.2
      omega
    unfold dec12
    rw [hc, e1, e2, if_pos ⟨by omega, hk, hs⟩]
  · rw [bytes_short hk]
    obtain ⟨h0, h1⟩ := crcI_range (oct_short hw)
    generalize hc : crcI [F.k, F.l, F.s / 256, F.s % 256] = c at h0 h1 ⊢
    show dec6 F.k F.l (F.s / 256) (F.s % 256) (c / 256) (c % 256) = some F
    have e1 : F.s / 256 * 256 + F.s % 256 = F.s := by omega
    have hz : F.a = 0 ∧ F.b = 0 ∧ F.y = 0 := by
      rcases hS.2 with h | h
      · exact absurd h.1 hk
      · exact h.2
    have hs' : Own.sound F.k F.l 0 0 0 = true := by
      have : Own.sound F.k F.l F.a F.b F.y = true := hs
      rwa [hz.1, hz.2.1, hz.2.2] at this
    unfold dec6
    rw [hc, e1, if_pos ⟨by omega, hk, hs'⟩]
    obtain ⟨k, l, s, a, b, y⟩ := F
    obtain ⟨rfl, rfl, rfl⟩ := hz
    rfl
theorem bytes_inj {F G : Fr} (hF : F.wf) (sF : F.sound = true) (hG : G.wf) (sG : G.sound = true) (h : F.bytes = G.bytes) : F = G := by
  have e1 := dec_enc hF sF
  have e2 := dec_enc hG sG
  rw [h, e2] at e1
  exact (Option.some.inj e1).symm
theorem str_inj {l m : List Int} (hl : Oct l) (hm : Oct m) (h : strOfNums l = strOfNums m) : l = m := by
  have e := congrArg (fun s : ByteArray => s.data.toList.map (fun c => (c.toNat : Int))) h
  have key : ∀ l : List Int, Oct l → (strOfNums l).data.toList.map (fun c => (c.toNat : Int)) = l := by
    intro l hl
    unfold strOfNums
    simp only [List.map_map]
    conv => rhs; rw [← List.map_id l]
    refine List.map_congr_left fun x hx => ?_
    have := lo8 (hl x hx)
    simp
    omega
  exact (key l hl).symm.trans (e.trans (key m hm))
end Go.Proofs.Ytamaemlhnkabcaa.Own
