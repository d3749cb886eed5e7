/- CrcThree: some bytes in each row. -/
import Derived.Test.YtckgiilloahcjaaOwnI
namespace Go.Proofs.Ytckgiilloahcjaa.Own
open Go.RowKit Go.Proofs.Ytckgiilloahcjaa.Crc Go.Proofs.YtckgiilloahcjaaW.PrintWords Go.Proofs.YtckgiilloahcjaaW.PrintLast Go.Proofs.YtckgiilloahcjaaW.PrintMore
set_option linter.unusedVariables false
set_option linter.unusedSimpArgs false

set_option maxHeartbeats 4000000 in
set_option maxRecDepth 100000 in
theorem three1 (a b c : Addr) (ca cb cc : Nat) (la lb lc : List Int) (w : World) (ra : ReadsInt w .u8 (some a) la.length la) (rb : ReadsInt w .u8 (some b) lb.length lb) (rc : ReadsInt w .u8 (some c) lc.length lc)
    (oa : Oct la) (ob : Oct lb) (oc : Oct lc) (xa : la.length ≤ ca) (xb : lb.length ≤ cb) (xc : lc.length ≤ cc) (h1 : (lc.length : Int) < lb.length) (h2 : (lc.length : Int) < la.length) (hn : lc.length ≤ 1000) :
    Calls Try.prog 10 #[.slice (some a) la.length ca, .slice (some b) lb.length cb, .slice (some c) lc.length cc] w fun e w' => e = .returned (.bool true) ∧ Below w.heap.size w w' := by
  have RA := Aside0.mk ra
  have RB := Aside0.mk rb
  have RC := Aside0.mk rc
  have OA := Aside0.mk oa
  have OB := Aside0.mk ob
  have OC := Aside0.mk oc
  have na : lc.length ≤ la.length := by omega
  have nb : lc.length ≤ lb.length := by omega
  have nc : lc.length ≤ lc.length := by omega
  have E := Aside0.mk (three_eq oa ob oc (lc.length) na nb nc)
  have ma := ra.2.1
  have mb := rb.2.1
  have mc := rc.2.1
  clear ra rb rc oa ob oc
  go_enter Try.func10, Try.ntmps10
  go_wp2_with fail
  refine (known_calls _).mono ?_
  rintro e w1 ⟨rfl, hb⟩
  have B1 := Aside0.mk hb
  clear hb
  go_wp2_with fail
  go_loopw [8, 9] (fun d i wr => ∃ k : Nat, k ≤ lc.length ∧ i = .int .i64 k ∧ Row w wr w1.heap.size d ((List.range k).map (three la lb lc))) (fun _ i _ => lc.length - (intOf i).toNat)
  case atStart => exact ⟨0, by omega, rfl, Row.nil B1.out⟩
  case round =>
    obtain ⟨k, hk, rfl, hR⟩ := hrel
    have R := Aside0.mk hR
    clear hR
    by_cases hlt : k < lc.length
    · obtain ⟨a', ea, ha⟩ := read_at RA.out R.out.2.1 k (by omega)
      obtain ⟨b', eb, hb⟩ := read_at RB.out R.out.2.1 k (by omega)
      obtain ⟨c', ec, hc⟩ := read_at RC.out R.out.2.1 k (by omega)
      obtain rfl := Option.some.inj ea
      obtain rfl := Option.some.inj eb
      obtain rfl := Option.some.inj ec
      have T3 := Aside0.mk (show bits .xor .u8 (bits .xor .u8 (la.getD k 0) (lb.getD k 0)) (lc.getD k 0) = three la lb lc k from rfl)
      have O3 := Aside0.mk (oct_three OA.out OB.out OC.out k)
      have S3 := Aside0.mk (range_snoc (three la lb lc) k)
      generalize la.getD k 0 = p at ha T3
      generalize lb.getD k 0 = q at hb T3
      generalize lc.getD k 0 = r at hc T3
      have LN := Aside0.mk (show ((List.range k).map (three la lb lc)).length + 1 ≤ 1000000 by simp; omega)
      have ka : (k : Int) < la.length := by omega
      have kb : (k : Int) < lb.length := by omega
      have kc : (k : Int) < lc.length := by omega
      go_wp2_with fail
      go_region_law (refine step_byte rfl _ _ rfl _ _ _ (Row.alloc (Row.drew R.out) _) ⟨wr.heap.size, 0, none⟩ (three la lb lc k) _ (by rw [← T3.out]; exact new_byte wr.drew _) O3.out LN.out rfl rfl ?_; intro v1 w2 R1)
      all_goals
        go_wp2
        go_roundw
        case rel => exact ⟨k + 1, by omega, by go_num, by rw [S3.out]; exact R1⟩
        case measure => simp [intOf]; omega
    · have ek : k = lc.length := by omega
      subst ek
      clear hlt hk
      go_wp2_with fail
      go_region_with (first | (go_at_call 12; (with_reducible refine (sum_take (some a) ca _ la _ (RA.out.below (Row.drew R.out).bel) OA.out na).mono ?_); rintro e w2 ⟨rfl, hb⟩; have R2 := Aside0.mk ((Row.drew R.out).below hb); clear hb) | (go_at_call 12; (with_reducible refine (sum_take (some b) cb _ lb _ (RB.out.below R2.out.bel) OB.out nb).mono ?_); rintro e w3 ⟨rfl, hb⟩; have R3 := Aside0.mk (R2.out.below hb); clear hb) | (go_at_call 12; (with_reducible refine (sum_take (some c) cc _ lc _ (RC.out.below R3.out.bel) OC.out nc).mono ?_); rintro e w4 ⟨rfl, hb⟩; have R4 := Aside0.mk (R3.out.below hb); clear hb) | (go_at_call 12; (with_reducible refine (sum_row _ _ _ _ _ R4.out).mono ?_); rintro e w5 ⟨rfl, hb⟩; have R5 := Aside0.mk (R4.out.below hb); clear hb))
      all_goals
        go_wp2
        go_ret
        exact ⟨ret_bool (by have e := E.out; (try simp only [List.take_length] at e); rw [e]; simp), R5.out.2.1⟩

end Go.Proofs.Ytckgiilloahcjaa.Own
