/- The references' Sub and Lost in plain words; FlowSubs (layer 19). -/
import Derived.Test.YtladjllencanlaaOwnL
namespace Go.Proofs.Ytladjllencanlaa.Own
open Go.RowKit Go.Proofs.Ytladjllencanlaa.PFlowTells Go.Proofs.YtladjllencanlaaW.PrintWords Go.Proofs.YtladjllencanlaaW.PrintLast Go.Proofs.YtladjllencanlaaW.PrintMore
set_option linter.unusedVariables false
set_option linter.unusedSimpArgs false

theorem rsub_l0 (g s : List Int) (hg : g.length ≤ 1000000) (hs : s.length ≤ 1000000) : ∀ (n i j : Nat), s.length - j ≤ n → i ≤ g.length → j ≤ s.length → shunterref19_Sub.l0 (n + 1) g s (i : Int) (j : Int) = some ((g.drop i).isSublist (s.drop j))
  | 0, i, j, hn, hi, hj => by
    have e : j = s.length := by omega
    subst e
    unfold shunterref19_Sub.l0
    rw [if_neg (by omega), List.drop_length]
    congr 1
    by_cases h : i < g.length
    · rw [drop_cons g i h, sub_nil, beq_eq_false_iff_ne]; omega
    · rw [List.drop_eq_nil_of_le (by omega), List.isSublist_iff_sublist.2 (List.nil_sublist _), beq_iff_eq]; omega
  | n + 1, i, j, hn, hi, hj => by
    by_cases hlt : j < s.length
    · unfold shunterref19_Sub.l0
      rw [if_pos (by omega)]
      by_cases h : i < g.length
      · rw [if_pos (by omega), if_pos (by omega), if_pos (by omega), wr1 i (by omega), wr1 j (by omega), drop_cons g i h, drop_cons s j hlt]
        have e1 : rd g (i : Int) = g.getD i 0 := by unfold rd; rw [Int.toNat_natCast]
        have e2 : rd s (j : Int) = s.getD j 0 := by unfold rd; rw [Int.toNat_natCast]
        rw [e1, e2]
        by_cases hx : g.getD i 0 = s.getD j 0
        · rw [if_pos hx, rsub_l0 g s hg hs n (i + 1) (j + 1) (by omega) (by omega) (by omega)]
          rw [List.isSublist, if_pos (beq_iff_eq.mpr hx)]
        · rw [if_neg hx, rsub_l0 g s hg hs n i (j + 1) (by omega) (by omega) (by omega), drop_cons g i h]
          conv => rhs; rw [List.isSublist, if_neg (by simpa using hx)]
      · rw [if_neg (by omega), wr1 j (by omega), rsub_l0 g s hg hs n i (j + 1) (by omega) (by omega) (by omega), List.drop_eq_nil_of_le (by omega)]
        rw [List.isSublist_iff_sublist.2 (List.nil_sublist _), List.isSublist_iff_sublist.2 (List.nil_sublist _)]
    · have e : j = s.length := by omega
      subst e
      unfold shunterref19_Sub.l0
      rw [if_neg (by omega), List.drop_length]
      congr 1
      by_cases h : i < g.length
      · rw [drop_cons g i h, sub_nil, beq_eq_false_iff_ne]; omega
      · rw [List.drop_eq_nil_of_le (by omega), List.isSublist_iff_sublist.2 (List.nil_sublist _), beq_iff_eq]; omega
theorem rsub_f (g s : List Int) (hg : g.length ≤ 1000000) (hs : s.length ≤ 1000000) : shunterref19_Sub.f (s.length + 1) g s = some (g.isSublist s) := by
  have := rsub_l0 g s hg hs s.length 0 0 (by omega) (by omega) (by omega)
  simpa [shunterref19_Sub.f] using this
theorem rlost_f (g s : List Int) (hg : g.length ≤ 1000000) (hs : s.length ≤ 1000000) : shunterref19_Lost.f (s.length + 1) g s = some (lostN g s) := by
  unfold shunterref19_Lost.f lostN
  rw [rsub_f g s hg hs]
  rcases h : g.isSublist s with _ | _
  · simp
  · simp
    rw [Go.IntWalk.wrap64_in _ (by omega)]
theorem kc32 {w : World} {A : Option Addr} {n : Nat} {l : List Int} (h : ReadsInt w .u32 A n l) : (Kd.int .u32).C w A n l :=
  ⟨h.1, h.2.1, fun hn => by
    obtain ⟨ad, e, hc⟩ := h.2.2 hn
    refine ⟨ad, e, fun j p hj => ⟨[.int .u32 p], rfl, rfl, fun i u hu => ?_⟩⟩
    have hj' := (List.getElem?_eq_some_iff.1 hj).1
    have hi := (List.getElem?_eq_some_iff.1 hu).1
    match i, hi with
    | 0, _ =>
      have := hc j (by rw [← h.1]; exact hj')
      rw [show j * (Kd.int .u32).sz + 0 = j by show j * 1 + 0 = j; omega, this, ← hu, List.getD_eq_getElem?_getD, hj]
      rfl⟩
theorem rsub_calls (A B : Option Addr) (c d : Nat) (g s : List Int) (w : World) (hg : ReadsInt w .u32 A g.length g) (hs : ReadsInt w .u32 B s.length s) (hc : g.length ≤ c) (hd : s.length ≤ d) (lg : g.length ≤ 1000000) (ls : s.length ≤ 1000000) :
    Calls Try.prog 19 #[.slice A g.length c, .slice B s.length d] w fun e w' => e = .returned (.bool (g.isSublist s)) ∧ Below w.heap.size w w' := by
  refine (shunterref19_Sub.calls (s.length + 1) A c g B d s _ w (kc32 hg) hc (kc32 hs) hd (rsub_f g s lg ls)).mono ?_
  rintro e w' ⟨rfl, hw⟩
  exact ⟨rfl, hw.below⟩
theorem rlost_calls (A B : Option Addr) (c d : Nat) (g s : List Int) (w : World) (hg : ReadsInt w .u32 A g.length g) (hs : ReadsInt w .u32 B s.length s) (hc : g.length ≤ c) (hd : s.length ≤ d) (lg : g.length ≤ 1000000) (ls : s.length ≤ 1000000) :
    Calls Try.prog 20 #[.slice A g.length c, .slice B s.length d] w fun e w' => e = .returned (.int .i64 (lostN g s)) ∧ Below w.heap.size w w' := by
  refine (shunterref19_Lost.calls (s.length + 1) A c g B d s _ w (kc32 hg) hc (kc32 hs) hd (rlost_f g s lg ls)).mono ?_
  rintro e w' ⟨rfl, hw⟩
  exact ⟨rfl, hw.below⟩
set_option maxHeartbeats 1000000 in
set_option maxRecDepth 100000 in
theorem subs_big1 (A B : Option Addr) (c d : Nat) (g s : List Int) (w : World) (hl : 300 < g.length) : Calls Try.prog 7 #[.slice A g.length c, .slice B s.length d] w fun e w' => e = .returned (.bool true) ∧ Below w.heap.size w w' := by
  have e0 : decide ((g.length : Int) > 300) = true := decide_eq_true (by omega)
  clear hl
  go_enter Try.func7, Try.ntmps7
  go_wp2_with fail
  refine (known_calls _).mono ?_
  rintro e w1 ⟨rfl, hb⟩
  have B1 := Aside0.mk hb
  clear hb
  go_wp2
  go_ret
  exact ⟨rfl, B1.out⟩
set_option maxHeartbeats 1000000 in
set_option maxRecDepth 100000 in
theorem subs_big2 (A B : Option Addr) (c d : Nat) (g s : List Int) (w : World) (hl : ¬ 300 < g.length) (hl2 : 300 < s.length) : Calls Try.prog 7 #[.slice A g.length c, .slice B s.length d] w fun e w' => e = .returned (.bool true) ∧ Below w.heap.size w w' := by
  have e0 : decide ((g.length : Int) > 300) = false := decide_eq_false (by omega)
  have e1 : decide ((s.length : Int) > 300) = true := decide_eq_true (by omega)
  clear hl2
  clear hl
  go_enter Try.func7, Try.ntmps7
  go_wp2_with fail
  refine (known_calls _).mono ?_
  rintro e w1 ⟨rfl, hb⟩
  have B1 := Aside0.mk hb
  clear hb
  go_wp2
  go_ret
  exact ⟨rfl, B1.out⟩
set_option maxHeartbeats 1000000 in
set_option maxRecDepth 100000 in
theorem subs_ok (A B : Option Addr) (c d : Nat) (g s : List Int) (w : World) (hg : ReadsInt w .u32 A g.length g) (hs : ReadsInt w .u32 B s.length s) (hc : g.length ≤ c) (hd : s.length ≤ d) (hl : ¬ 300 < g.length) (hl2 : ¬ 300 < s.length) : Calls Try.prog 7 #[.slice A g.length c, .slice B s.length d] w fun e w' => e = .returned (.bool true) ∧ Below w.heap.size w w' := by
  have e0 : decide ((g.length : Int) > 300) = false := decide_eq_false (by omega)
  have e1 : decide ((s.length : Int) > 300) = false := decide_eq_false (by omega)
  have RS := Aside0.mk (fun (w' : World) (hb : Below w.heap.size w w') => rsub_calls A B c d g s w' (hg.below hb) (hs.below hb) hc hd (by omega) (by omega))
  have RL := Aside0.mk (fun (w' : World) (hb : Below w.heap.size w w') => rlost_calls A B c d g s w' (hg.below hb) (hs.below hb) hc hd (by omega) (by omega))
  have FS := Aside0.mk (fun (w' : World) (hb : Below w.heap.size w w') => sub_calls A B c d g s w' (hg.below hb) (hs.below hb) hc hd)
  have FL := Aside0.mk (fun (w' : World) (hb : Below w.heap.size w w') => lost_calls A B c d g s w' (hg.below hb) (hs.below hb) hc hd)
  clear hg hs hc hd hl hl2
  generalize g.isSublist s = b at RS FS
  generalize lostN g s = r at RL FL
  go_enter Try.func7, Try.ntmps7
  go_wp2_with fail
  refine (known_calls _).mono ?_
  rintro e w1 ⟨rfl, hb⟩
  have B1 := Aside0.mk hb
  clear hb
  go_wp2_with fail
  refine (FS.out _ B1.out).mono ?_
  rintro e w2 ⟨rfl, rfl⟩
  go_wp2_with fail
  refine (RS.out _ B1.out).mono ?_
  rintro e w3 ⟨rfl, hb⟩
  have B3 := Aside0.mk (below_then B1.out B1.out.size hb)
  clear hb
  go_wp2_with fail
  refine (FL.out _ B3.out).mono ?_
  rintro e w4 ⟨rfl, rfl⟩
  go_wp2_with fail
  refine (RL.out _ B3.out).mono ?_
  rintro e w5 ⟨rfl, hb⟩
  have B5 := Aside0.mk (below_then B3.out B3.out.size hb)
  clear hb
  go_wp2
  go_ret
  exact ⟨rfl, B5.out⟩
theorem flowSubs_term (A : Option Addr) (c : Nat) (g : List Int) (B : Option Addr) (d : Nat) (s : List Int) (w : World) (hr : ReadsInt w .u32 A g.length g) (hm : g.length ≤ maxLen) (hw : ∀ x ∈ g, (Lit.int .u32 x).wf = true) (hy : g.length * 4 ≤ 140737488351232) (hn : A = none → c = 0) (hc : g.length ≤ c)
    (hr1 : ReadsInt w .u32 B s.length s) (hm1 : s.length ≤ maxLen) (hw1 : ∀ x ∈ s, (Lit.int .u32 x).wf = true) (hy1 : s.length * 4 ≤ 140737488351232) (hn1 : B = none → d = 0) (hd : s.length ≤ d) :
    Calls Try.prog 7 #[.slice A g.length c, .slice B s.length d] w fun e w' => e = .returned (.bool true) ∧ Below w.heap.size w w' := by
  by_cases hl : 300 < g.length
  · exact subs_big1 A B c d g s w hl
  · by_cases hl2 : 300 < s.length
    · exact subs_big2 A B c d g s w hl hl2
    · exact subs_ok A B c d g s w hr hr1 hc hd hl hl2
end Go.Proofs.Ytladjllencanlaa.Own
