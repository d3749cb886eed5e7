/- The walk of CrcStays. -/
import Derived.Test.YtckgiilloahcjaaOwnD
namespace Go.Proofs.Ytckgiilloahcjaa.Own
open Go.RowKit Go.Proofs.Ytckgiilloahcjaa.Crc Go.Proofs.YtckgiilloahcjaaW.PrintWords Go.Proofs.YtckgiilloahcjaaW.PrintLast Go.Proofs.YtckgiilloahcjaaW.PrintMore
set_option linter.unusedVariables false
set_option linter.unusedSimpArgs false

theorem bytesOf_str {l : List Int} (ho : Oct l) : bytesOf (strOfNums l) = l := by
  unfold bytesOf
  rw [strOfNums_data, List.map_map]
  have : ∀ x ∈ l, ((fun b : UInt8 => (b.toNat : Int)) ∘ fun n : Int => UInt8.ofNat n.toNat) x = x := by
    intro x hx
    have := lo8 (ho x hx)
    simp [Function.comp, UInt8.toNat_ofNat']
    omega
  rw [List.map_congr_left this, List.map_id'']
  intro x; rfl

set_option maxHeartbeats 4000000 in
set_option maxRecDepth 100000 in
theorem crcStays_walk (a : Option Addr) (cap : Nat) (l : List Int) (w : World) (hr : ReadsInt w .u8 a l.length l) (hm : l.length ≤ maxLen) (ho : ∀ x ∈ l, (Lit.int .u8 x).wf = true) (y : l.length * 1 ≤ 140737488351232) (hn : a = none → cap = 0) :
    Calls Try.prog 3 #[.slice a l.length cap] w fun e w' => e = .returned (.bool true) ∧ Below w.heap.size w w' := by
  have HR := Aside0.mk hr
  have HO : Aside0 (Oct l) := Aside0.mk ho
  unfold maxLen at hm
  clear hr ho hn
  by_cases hl : l.length ≤ 1000
  · have CV := Aside0.mk (fun (W : World) (hr : ReadsInt W .u8 a l.length l) => string_of_reads (dst := 9) (c := cap) Try.underlying22 Try.underlying5 Try.underlying9 hr)
    have CB := Aside0.mk (fun (W : World) => Lib.run_convert_string_bytes (P := Try.prog) W 9 22 5 (strOfNums l) Try.underlying9 Try.underlying22 Try.underlying5)
    have RB := Aside0.mk (fun (W : World) => bytes_reads W 5 (strOfNums l) (by rw [strOfNums_size]; omega))
    have SZ := Aside0.mk (strOfNums_size l)
    have EO := Aside0.mk (bytesOf_str HO.out)
    generalize strOfNums l = S at CV CB RB SZ EO
    rw [EO.out, SZ.out] at RB
    rw [SZ.out] at CB
    go_enter Try.func3, Try.ntmps3
    go_wp2_with fail
    refine (known_calls _).mono ?_
    rintro e w1 ⟨rfl, hb⟩
    have B1 := Aside0.mk hb
    clear hb
    have c1 := CV.out w1 (HR.out.below B1.out)
    go_wp2_with fail
    refine (sum_calls a cap l _ (HR.out.below B1.out) HO.out).mono ?_
    rintro e w2 ⟨rfl, hb⟩
    have B2 := Aside0.mk (below_then B1.out B1.out.size hb)
    clear hb c1
    have c2 := CV.out w2 (HR.out.below B2.out)
    go_wp2_with fail
    refine (sum_calls a cap l _ (HR.out.below B2.out) HO.out).mono ?_
    rintro e w3 ⟨rfl, hb⟩
    have B3 := Aside0.mk (below_then B2.out B2.out.size hb)
    clear hb c2
    have c3 := CB.out w3
    go_wp2_with fail
    have B4 := Aside0.mk (bytes_below B3.out B3.out.size 5 S)
    refine (sum_calls _ _ l _ (RB.out w3) HO.out).mono ?_
    rintro e w4 ⟨rfl, hb⟩
    have B5 := Aside0.mk (below_then B4.out B4.out.size hb)
    clear hb c3
    go_wp2
    go_ret
    exact ⟨by first | rfl | simp, B5.out⟩
  · have hl2 : 1000 < l.length := by omega
    clear hl
    go_enter Try.func3, Try.ntmps3
    go_wp2_with fail
    refine (known_calls _).mono ?_
    rintro e w1 ⟨rfl, hb⟩
    have B1 := Aside0.mk hb
    clear hb
    go_wp2
    go_ret
    exact ⟨rfl, B1.out⟩
end Go.Proofs.Ytckgiilloahcjaa.Own
