/- CrcThree: no byte in one of the rows; a great number of them; and the walk whole. -/
import Derived.Test.YtckgiilloahcjaaOwnI
import Derived.Test.YtckgiilloahcjaaOwnJ1
import Derived.Test.YtckgiilloahcjaaOwnJ2
import Derived.Test.YtckgiilloahcjaaOwnJ3
import Derived.Test.YtckgiilloahcjaaOwnJ4
namespace Go.Proofs.Ytckgiilloahcjaa.Own
open Go.RowKit Go.Proofs.Ytckgiilloahcjaa.Crc Go.Proofs.YtckgiilloahcjaaW.PrintWords Go.Proofs.YtckgiilloahcjaaW.PrintLast Go.Proofs.YtckgiilloahcjaaW.PrintMore
set_option linter.unusedVariables false
set_option linter.unusedSimpArgs false

set_option maxHeartbeats 4000000 in
set_option maxRecDepth 100000 in
theorem zero1 (a b c : Option Addr) (na nb nc ca cb cc : Nat) (w : World) (xa : na ≤ ca) (xb : nb ≤ cb) (xc : 0 ≤ cc) (h1 : (0 : Int) < nb) (h2 : (0 : Int) < na) (ma : na ≤ 9223372036854775807) (mb : nb ≤ 9223372036854775807) (mc : nc ≤ 9223372036854775807) :
    Calls Try.prog 10 #[.slice a na ca, .slice b nb cb, .slice c 0 cc] w fun e w' => e = .returned (.bool true) ∧ Below w.heap.size w w' := by
  obtain ⟨i, hi, _, _, _⟩ := info_parts infoE
  have sa : ∀ W : World, (Instr.slice 22 (.slice a na ca) none (some (.int .i64 0)) none).run Try.prog W = .ok (.slice a 0 ca) W := fun W => cut_to 22 5 .i64 Try.underlying22 hi a na ca 0 (by omega) (by omega) xa W
  have sb : ∀ W : World, (Instr.slice 22 (.slice b nb cb) none (some (.int .i64 0)) none).run Try.prog W = .ok (.slice b 0 cb) W := fun W => cut_to 22 5 .i64 Try.underlying22 hi b nb cb 0 (by omega) (by omega) xb W
  have sc : ∀ W : World, (Instr.slice 22 (.slice c 0 cc) none (some (.int .i64 0)) none).run Try.prog W = .ok (.slice c 0 cc) W := fun W => cut_to 22 5 .i64 Try.underlying22 hi c 0 cc 0 (by omega) (by omega) xc W
  have SE := Aside0.mk (fun (A : Option Addr) (cp : Nat) (W : World) => sum_empty A cp W)
  clear hi
  go_enter Try.func10, Try.ntmps10
  go_wp2_with fail
  refine (known_calls _).mono ?_
  rintro e w1 ⟨rfl, hb⟩
  have B1 := Aside0.mk hb
  clear hb
  go_wp2_with fail
  go_loopw [8, 9] (fun d i wr => i = .int .i64 0 ∧ d = .slice none 0 0 ∧ Below w.heap.size w wr) (fun _ _ _ => 0)
  case atStart => exact ⟨rfl, rfl, B1.out⟩
  case round =>
    obtain ⟨rfl, rfl, hb⟩ := hrel
    have B2 := Aside0.mk hb
    clear hb B1
    go_wp2_with fail
    go_region_with (first | (go_at_call 12; (with_reducible refine (SE.out a ca _).mono ?_); rintro e w2 ⟨rfl, hb⟩; have B3 := Aside0.mk (below_then B2.out.drew B2.out.size hb); clear hb) | (go_at_call 12; (with_reducible refine (SE.out b cb _).mono ?_); rintro e w3 ⟨rfl, hb⟩; have B4 := Aside0.mk (below_then B3.out B3.out.size hb); clear hb) | (go_at_call 12; (with_reducible refine (SE.out c cc _).mono ?_); rintro e w4 ⟨rfl, hb⟩; have B5 := Aside0.mk (below_then B4.out B4.out.size hb); clear hb) | (go_at_call 12; (with_reducible refine (SE.out none 0 _).mono ?_); rintro e w5 ⟨rfl, hb⟩; have B6 := Aside0.mk (below_then B5.out B5.out.size hb); clear hb))
    all_goals
      go_wp2
      go_ret
      exact ⟨ret_bool (by first | rfl | decide), B6.out⟩

set_option maxHeartbeats 4000000 in
set_option maxRecDepth 100000 in
theorem zero2 (a b c : Option Addr) (na nb nc ca cb cc : Nat) (w : World) (xa : 0 ≤ ca) (xb : nb ≤ cb) (xc : nc ≤ cc) (h1 : (nc : Int) < nb) (ma : na ≤ 9223372036854775807) (mb : nb ≤ 9223372036854775807) (mc : nc ≤ 9223372036854775807) :
    Calls Try.prog 10 #[.slice a 0 ca, .slice b nb cb, .slice c nc cc] w fun e w' => e = .returned (.bool true) ∧ Below w.heap.size w w' := by
  obtain ⟨i, hi, _, _, _⟩ := info_parts infoE
  have sa : ∀ W : World, (Instr.slice 22 (.slice a 0 ca) none (some (.int .i64 0)) none).run Try.prog W = .ok (.slice a 0 ca) W := fun W => cut_to 22 5 .i64 Try.underlying22 hi a 0 ca 0 (by omega) (by omega) xa W
  have sb : ∀ W : World, (Instr.slice 22 (.slice b nb cb) none (some (.int .i64 0)) none).run Try.prog W = .ok (.slice b 0 cb) W := fun W => cut_to 22 5 .i64 Try.underlying22 hi b nb cb 0 (by omega) (by omega) xb W
  have sc : ∀ W : World, (Instr.slice 22 (.slice c nc cc) none (some (.int .i64 0)) none).run Try.prog W = .ok (.slice c 0 cc) W := fun W => cut_to 22 5 .i64 Try.underlying22 hi c nc cc 0 (by omega) (by omega) xc W
  have SE := Aside0.mk (fun (A : Option Addr) (cp : Nat) (W : World) => sum_empty A cp W)
  clear hi
  go_enter Try.func10, Try.ntmps10
  go_wp2_with fail
  refine (known_calls _).mono ?_
  rintro e w1 ⟨rfl, hb⟩
  have B1 := Aside0.mk hb
  clear hb
  go_wp2_with fail
  go_loopw [8, 9] (fun d i wr => i = .int .i64 0 ∧ d = .slice none 0 0 ∧ Below w.heap.size w wr) (fun _ _ _ => 0)
  case atStart => exact ⟨rfl, rfl, B1.out⟩
  case round =>
    obtain ⟨rfl, rfl, hb⟩ := hrel
    have B2 := Aside0.mk hb
    clear hb B1
    go_wp2_with fail
    go_region_with (first | (go_at_call 12; (with_reducible refine (SE.out a ca _).mono ?_); rintro e w2 ⟨rfl, hb⟩; have B3 := Aside0.mk (below_then B2.out.drew B2.out.size hb); clear hb) | (go_at_call 12; (with_reducible refine (SE.out b cb _).mono ?_); rintro e w3 ⟨rfl, hb⟩; have B4 := Aside0.mk (below_then B3.out B3.out.size hb); clear hb) | (go_at_call 12; (with_reducible refine (SE.out c cc _).mono ?_); rintro e w4 ⟨rfl, hb⟩; have B5 := Aside0.mk (below_then B4.out B4.out.size hb); clear hb) | (go_at_call 12; (with_reducible refine (SE.out none 0 _).mono ?_); rintro e w5 ⟨rfl, hb⟩; have B6 := Aside0.mk (below_then B5.out B5.out.size hb); clear hb))
    all_goals
      go_wp2
      go_ret
      exact ⟨ret_bool (by first | rfl | decide), B6.out⟩

set_option maxHeartbeats 4000000 in
set_option maxRecDepth 100000 in
theorem zero3 (a b c : Option Addr) (na nb nc ca cb cc : Nat) (w : World) (xa : na ≤ ca) (xb : 0 ≤ cb) (xc : nc ≤ cc) (h2 : (0 : Int) < na) (ma : na ≤ 9223372036854775807) (mb : nb ≤ 9223372036854775807) (mc : nc ≤ 9223372036854775807) :
    Calls Try.prog 10 #[.slice a na ca, .slice b 0 cb, .slice c nc cc] w fun e w' => e = .returned (.bool true) ∧ Below w.heap.size w w' := by
  obtain ⟨i, hi, _, _, _⟩ := info_parts infoE
  have sa : ∀ W : World, (Instr.slice 22 (.slice a na ca) none (some (.int .i64 0)) none).run Try.prog W = .ok (.slice a 0 ca) W := fun W => cut_to 22 5 .i64 Try.underlying22 hi a na ca 0 (by omega) (by omega) xa W
  have sb : ∀ W : World, (Instr.slice 22 (.slice b 0 cb) none (some (.int .i64 0)) none).run Try.prog W = .ok (.slice b 0 cb) W := fun W => cut_to 22 5 .i64 Try.underlying22 hi b 0 cb 0 (by omega) (by omega) xb W
  have sc : ∀ W : World, (Instr.slice 22 (.slice c nc cc) none (some (.int .i64 0)) none).run Try.prog W = .ok (.slice c 0 cc) W := fun W => cut_to 22 5 .i64 Try.underlying22 hi c nc cc 0 (by omega) (by omega) xc W
  have SE := Aside0.mk (fun (A : Option Addr) (cp : Nat) (W : World) => sum_empty A cp W)
  clear hi
  go_enter Try.func10, Try.ntmps10
  go_wp2_with fail
  refine (known_calls _).mono ?_
  rintro e w1 ⟨rfl, hb⟩
  have B1 := Aside0.mk hb
  clear hb
  go_wp2_with fail
  go_loopw [8, 9] (fun d i wr => i = .int .i64 0 ∧ d = .slice none 0 0 ∧ Below w.heap.size w wr) (fun _ _ _ => 0)
  case atStart => exact ⟨rfl, rfl, B1.out⟩
  case round =>
    obtain ⟨rfl, rfl, hb⟩ := hrel
    have B2 := Aside0.mk hb
    clear hb B1
    go_wp2_with fail
    go_region_with (first | (go_at_call 12; (with_reducible refine (SE.out a ca _).mono ?_); rintro e w2 ⟨rfl, hb⟩; have B3 := Aside0.mk (below_then B2.out.drew B2.out.size hb); clear hb) | (go_at_call 12; (with_reducible refine (SE.out b cb _).mono ?_); rintro e w3 ⟨rfl, hb⟩; have B4 := Aside0.mk (below_then B3.out B3.out.size hb); clear hb) | (go_at_call 12; (with_reducible refine (SE.out c cc _).mono ?_); rintro e w4 ⟨rfl, hb⟩; have B5 := Aside0.mk (below_then B4.out B4.out.size hb); clear hb) | (go_at_call 12; (with_reducible refine (SE.out none 0 _).mono ?_); rintro e w5 ⟨rfl, hb⟩; have B6 := Aside0.mk (below_then B5.out B5.out.size hb); clear hb))
    all_goals
      go_wp2
      go_ret
      exact ⟨ret_bool (by first | rfl | decide), B6.out⟩

set_option maxHeartbeats 4000000 in
set_option maxRecDepth 100000 in
theorem zero4 (a b c : Option Addr) (na nb nc ca cb cc : Nat) (w : World) (xa : 0 ≤ ca) (xb : nb ≤ cb) (xc : nc ≤ cc) (h1 : (nb : Int) ≤ nc) (ma : na ≤ 9223372036854775807) (mb : nb ≤ 9223372036854775807) (mc : nc ≤ 9223372036854775807) :
    Calls Try.prog 10 #[.slice a 0 ca, .slice b nb cb, .slice c nc cc] w fun e w' => e = .returned (.bool true) ∧ Below w.heap.size w w' := by
  obtain ⟨i, hi, _, _, _⟩ := info_parts infoE
  have sa : ∀ W : World, (Instr.slice 22 (.slice a 0 ca) none (some (.int .i64 0)) none).run Try.prog W = .ok (.slice a 0 ca) W := fun W => cut_to 22 5 .i64 Try.underlying22 hi a 0 ca 0 (by omega) (by omega) xa W
  have sb : ∀ W : World, (Instr.slice 22 (.slice b nb cb) none (some (.int .i64 0)) none).run Try.prog W = .ok (.slice b 0 cb) W := fun W => cut_to 22 5 .i64 Try.underlying22 hi b nb cb 0 (by omega) (by omega) xb W
  have sc : ∀ W : World, (Instr.slice 22 (.slice c nc cc) none (some (.int .i64 0)) none).run Try.prog W = .ok (.slice c 0 cc) W := fun W => cut_to 22 5 .i64 Try.underlying22 hi c nc cc 0 (by omega) (by omega) xc W
  have SE := Aside0.mk (fun (A : Option Addr) (cp : Nat) (W : World) => sum_empty A cp W)
  clear hi
  go_enter Try.func10, Try.ntmps10
  go_wp2_with fail
  refine (known_calls _).mono ?_
  rintro e w1 ⟨rfl, hb⟩
  have B1 := Aside0.mk hb
  clear hb
  go_wp2_with fail
  go_loopw [8, 9] (fun d i wr => i = .int .i64 0 ∧ d = .slice none 0 0 ∧ Below w.heap.size w wr) (fun _ _ _ => 0)
  case atStart => exact ⟨rfl, rfl, B1.out⟩
  case round =>
    obtain ⟨rfl, rfl, hb⟩ := hrel
    have B2 := Aside0.mk hb
    clear hb B1
    go_wp2_with fail
    go_region_with (first | (go_at_call 12; (with_reducible refine (SE.out a ca _).mono ?_); rintro e w2 ⟨rfl, hb⟩; have B3 := Aside0.mk (below_then B2.out.drew B2.out.size hb); clear hb) | (go_at_call 12; (with_reducible refine (SE.out b cb _).mono ?_); rintro e w3 ⟨rfl, hb⟩; have B4 := Aside0.mk (below_then B3.out B3.out.size hb); clear hb) | (go_at_call 12; (with_reducible refine (SE.out c cc _).mono ?_); rintro e w4 ⟨rfl, hb⟩; have B5 := Aside0.mk (below_then B4.out B4.out.size hb); clear hb) | (go_at_call 12; (with_reducible refine (SE.out none 0 _).mono ?_); rintro e w5 ⟨rfl, hb⟩; have B6 := Aside0.mk (below_then B5.out B5.out.size hb); clear hb))
    all_goals
      go_wp2
      go_ret
      exact ⟨ret_bool (by first | rfl | decide), B6.out⟩

set_option maxHeartbeats 4000000 in
set_option maxRecDepth 100000 in
theorem long1 (a b c : Option Addr) (na nb nc ca cb cc : Nat) (w : World) (ma : na ≤ 9223372036854775807) (mb : nb ≤ 9223372036854775807) (mc : nc ≤ 9223372036854775807) (h1 : (nc : Int) < nb) (h2 : (nc : Int) < na) (h3 : 1000 < (nc : Int)) :
    Calls Try.prog 10 #[.slice a na ca, .slice b nb cb, .slice c nc cc] w fun e w' => e = .returned (.bool true) ∧ Below w.heap.size w w' := by
  go_enter Try.func10, Try.ntmps10
  go_wp2_with fail
  refine (known_calls _).mono ?_
  rintro e w1 ⟨rfl, hb⟩
  have B1 := Aside0.mk hb
  clear hb
  go_wp2
  go_ret
  exact ⟨rfl, B1.out⟩

set_option maxHeartbeats 4000000 in
set_option maxRecDepth 100000 in
theorem long2 (a b c : Option Addr) (na nb nc ca cb cc : Nat) (w : World) (ma : na ≤ 9223372036854775807) (mb : nb ≤ 9223372036854775807) (mc : nc ≤ 9223372036854775807) (h1 : (nc : Int) < nb) (h2 : (na : Int) ≤ nc) (h3 : 1000 < (na : Int)) :
    Calls Try.prog 10 #[.slice a na ca, .slice b nb cb, .slice c nc cc] w fun e w' => e = .returned (.bool true) ∧ Below w.heap.size w w' := by
  go_enter Try.func10, Try.ntmps10
  go_wp2_with fail
  refine (known_calls _).mono ?_
  rintro e w1 ⟨rfl, hb⟩
  have B1 := Aside0.mk hb
  clear hb
  go_wp2
  go_ret
  exact ⟨rfl, B1.out⟩

set_option maxHeartbeats 4000000 in
set_option maxRecDepth 100000 in
theorem long3 (a b c : Option Addr) (na nb nc ca cb cc : Nat) (w : World) (ma : na ≤ 9223372036854775807) (mb : nb ≤ 9223372036854775807) (mc : nc ≤ 9223372036854775807) (h1 : (nb : Int) ≤ nc) (h2 : (nb : Int) < na) (h3 : 1000 < (nb : Int)) :
    Calls Try.prog 10 #[.slice a na ca, .slice b nb cb, .slice c nc cc] w fun e w' => e = .returned (.bool true) ∧ Below w.heap.size w w' := by
  go_enter Try.func10, Try.ntmps10
  go_wp2_with fail
  refine (known_calls _).mono ?_
  rintro e w1 ⟨rfl, hb⟩
  have B1 := Aside0.mk hb
  clear hb
  go_wp2
  go_ret
  exact ⟨rfl, B1.out⟩

set_option maxHeartbeats 4000000 in
set_option maxRecDepth 100000 in
theorem long4 (a b c : Option Addr) (na nb nc ca cb cc : Nat) (w : World) (ma : na ≤ 9223372036854775807) (mb : nb ≤ 9223372036854775807) (mc : nc ≤ 9223372036854775807) (h1 : (nb : Int) ≤ nc) (h2 : (na : Int) ≤ nb) (h3 : 1000 < (na : Int)) :
    Calls Try.prog 10 #[.slice a na ca, .slice b nb cb, .slice c nc cc] w fun e w' => e = .returned (.bool true) ∧ Below w.heap.size w w' := by
  go_enter Try.func10, Try.ntmps10
  go_wp2_with fail
  refine (known_calls _).mono ?_
  rintro e w1 ⟨rfl, hb⟩
  have B1 := Aside0.mk hb
  clear hb
  go_wp2
  go_ret
  exact ⟨rfl, B1.out⟩

theorem nil_of {W : World} {A : Option Addr} {l : List Int} (h : ReadsInt W .u8 A l.length l) (hn : 0 < l.length) : ∃ ad, A = some ad := by
  obtain ⟨ad, e, _⟩ := h.2.2 hn
  exact ⟨ad, e⟩
theorem crcThree_walk (a : Option Addr) (ca : Nat) (la : List Int) (b : Option Addr) (cb : Nat) (lb : List Int) (c : Option Addr) (cc : Nat) (lc : List Int) (w : World)
    (ra : ReadsInt w .u8 a la.length la) (ma : la.length ≤ maxLen) (oa : ∀ x ∈ la, (Lit.int .u8 x).wf = true) (ya : la.length * 1 ≤ 140737488351232) (xa : la.length ≤ ca)
    (rb : ReadsInt w .u8 b lb.length lb) (mb : lb.length ≤ maxLen) (ob : ∀ x ∈ lb, (Lit.int .u8 x).wf = true) (yb : lb.length * 1 ≤ 140737488351232) (xb : lb.length ≤ cb)
    (rc : ReadsInt w .u8 c lc.length lc) (mc : lc.length ≤ maxLen) (oc : ∀ x ∈ lc, (Lit.int .u8 x).wf = true) (yc : lc.length * 1 ≤ 140737488351232) (xc : lc.length ≤ cc) :
    Calls Try.prog 10 #[.slice a la.length ca, .slice b lb.length cb, .slice c lc.length cc] w fun e w' => e = .returned (.bool true) ∧ Below w.heap.size w w' := by
  have na := ra.2.1
  have nb := rb.2.1
  have nc := rc.2.1
  by_cases h1 : lc.length < lb.length
  · by_cases h2 : lc.length < la.length
    · by_cases hl : lc.length ≤ 1000
      · by_cases hz : lc.length = 0
        · rw [hz]
          exact zero1 a b c _ _ lc.length ca cb cc w xa xb (by omega) (by omega) (by omega) na nb nc
        · obtain ⟨pa, rfl⟩ := nil_of ra (by omega)
          obtain ⟨pb, rfl⟩ := nil_of rb (by omega)
          obtain ⟨pc, rfl⟩ := nil_of rc (by omega)
          exact three1 pa pb pc ca cb cc la lb lc w ra rb rc oa ob oc xa xb xc (by omega) (by omega) hl
      · exact long1 a b c _ _ _ ca cb cc w na nb nc (by omega) (by omega) (by omega)
    · by_cases hl : la.length ≤ 1000
      · by_cases hz : la.length = 0
        · rw [hz]
          exact zero2 a b c la.length _ _ ca cb cc w (by omega) xb xc (by omega) na nb nc
        · obtain ⟨pa, rfl⟩ := nil_of ra (by omega)
          obtain ⟨pb, rfl⟩ := nil_of rb (by omega)
          obtain ⟨pc, rfl⟩ := nil_of rc (by omega)
          exact three2 pa pb pc ca cb cc la lb lc w ra rb rc oa ob oc xa xb xc (by omega) (by omega) hl
      · exact long2 a b c _ _ _ ca cb cc w na nb nc (by omega) (by omega) (by omega)
  · by_cases h2 : lb.length < la.length
    · by_cases hl : lb.length ≤ 1000
      · by_cases hz : lb.length = 0
        · rw [hz]
          exact zero3 a b c _ lb.length _ ca cb cc w xa (by omega) xc (by omega) na nb nc
        · obtain ⟨pa, rfl⟩ := nil_of ra (by omega)
          obtain ⟨pb, rfl⟩ := nil_of rb (by omega)
          obtain ⟨pc, rfl⟩ := nil_of rc (by omega)
          exact three3 pa pb pc ca cb cc la lb lc w ra rb rc oa ob oc xa xb xc (by omega) (by omega) hl
      · exact long3 a b c _ _ _ ca cb cc w na nb nc (by omega) (by omega) (by omega)
    · by_cases hl : la.length ≤ 1000
      · by_cases hz : la.length = 0
        · rw [hz]
          exact zero4 a b c la.length _ _ ca cb cc w (by omega) xb xc (by omega) na nb nc
        · obtain ⟨pa, rfl⟩ := nil_of ra (by omega)
          obtain ⟨pb, rfl⟩ := nil_of rb (by omega)
          obtain ⟨pc, rfl⟩ := nil_of rc (by omega)
          exact three4 pa pb pc ca cb cc la lb lc w ra rb rc oa ob oc xa xb xc (by omega) (by omega) hl
      · exact long4 a b c _ _ _ ca cb cc w na nb nc (by omega) (by omega) (by omega)
end Go.Proofs.Ytckgiilloahcjaa.Own
