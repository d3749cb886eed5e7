/- flow.Sub and flow.Lost of any numbers (layer 19). -/
import Derived.Test.YtladjllencanlaaOwnD
import Derived.Deep.LoopGhost
import Derived.WalkMore
namespace Go.Proofs.Ytladjllencanlaa.Own
open Go.RowKit Go.Proofs.Ytladjllencanlaa.PFlowTells Go.Proofs.YtladjllencanlaaW.PrintWords Go.Proofs.YtladjllencanlaaW.PrintLast Go.Proofs.YtladjllencanlaaW.PrintMore
set_option linter.unusedVariables false
set_option linter.unusedSimpArgs false

theorem infoE31 : ∃ i, Try.prog.info? 31 = some i ∧ i.size = 1 := by
  have h : (Try.prog.info? 31).map (fun i => i.size) = some 1 := by kernel_rfl
  obtain ⟨i, hi, hx⟩ := Option.map_eq_some_iff.1 h
  exact ⟨i, hi, hx⟩
/-- Numbers that are read are read from any of them on. -/
theorem reads_drop {W : World} {k : IntKind} {A : Option Addr} {l : List Int} (h : ReadsInt W k A l.length l) (c i : Nat) (hi : i ≤ l.length) : ReadsInt W k (if c = i then A else A.map (·.add (i * 1))) (l.drop i).length (l.drop i) ∨ (c = i ∧ i < l.length) := by
  by_cases hc : c = i
  · by_cases hl : i < l.length
    · exact .inr ⟨hc, hl⟩
    · refine .inl ⟨rfl, by rw [List.length_drop]; have := h.2.1; omega, fun hp => ?_⟩
      rw [List.length_drop] at hp
      omega
  · rw [if_neg hc]
    refine .inl ⟨rfl, by rw [List.length_drop]; have := h.2.1; omega, fun hp => ?_⟩
    rw [List.length_drop] at hp
    obtain ⟨ad, rfl, hcs⟩ := h.2.2 (by omega)
    refine ⟨_, rfl, fun j hj => ?_⟩
    have e : (ad.add (i * 1)).add j = ad.add (i + j) := by
      unfold Addr.add
      by_cases h1 : i = 0 <;> by_cases h2 : j = 0 <;> simp [h1, h2, Nat.add_assoc]
    rw [List.length_drop] at hj
    rw [e, hcs _ (by omega), List.getD_eq_getElem?_getD, List.getD_eq_getElem?_getD, List.getElem?_drop]
theorem sub_nil (x : Int) (l : List Int) : (x :: l).isSublist [] = false := by simp [List.isSublist]
theorem drop_cons (l : List Int) (k : Nat) (hk : k < l.length) : l.drop k = l.getD k 0 :: l.drop (k + 1) := by
  rw [List.drop_eq_getElem_cons hk, List.getD_eq_getElem?_getD, List.getElem?_eq_getElem hk, Option.getD_some]
set_option maxHeartbeats 1000000 in
set_option maxRecDepth 100000 in
theorem sub_calls (A B : Option Addr) (c d : Nat) (g s : List Int) (w : World) (hg : ReadsInt w .u32 A g.length g) (hs : ReadsInt w .u32 B s.length s) (hc : g.length ≤ c) (hd : s.length ≤ d) :
    Calls Try.prog 13 #[.slice A g.length c, .slice B s.length d] w fun e w' => e = .returned (.bool (g.isSublist s)) ∧ w' = w := by
  obtain ⟨i31, hi31, hs31⟩ := infoE31
  have HG := Aside0.mk hg
  have CT : Aside0 (∀ (A : Option Addr) (n c j : Nat), j ≤ n → ∀ W : World, (Instr.slice 29 (.slice A n c) (some (.int .i64 j)) none none).run Try.prog W = .ok (.slice (if c = j then A else A.map (·.add (j * 1))) (n - j) (c - j)) W) := Aside0.mk (fun A n c j hj W => by
    have := cut_from 29 31 .i64 Try.underlying29 hi31 1 hs31 A n c j (by omega) (by omega) W
    rwa [Int.toNat_natCast] at this)
  have HB := Aside0.mk hg.2.1
  have X0 : Aside0 (ReadsInt w .u32 B s.length s ∧ s.length ≤ d ∧ (g.drop 0).isSublist s = g.isSublist s) := Aside0.mk ⟨hs, hd, rfl⟩
  clear hg hs hc hd hi31 hs31
  go_enter Try.func13, Try.ntmps13
  go_wp2
  go_step3
  go_wp2
  go_step3
  go_wp2
  go_loopg [1, 11] g.length (fun n s1 s11 wr => ∃ (k : Nat) (t : List Int) (B' : Option Addr) (d' : Nat), k + n = g.length ∧ s11 = .int .i64 k ∧ s1 = .slice B' t.length d' ∧ Aside0 (ReadsInt w .u32 B' t.length t ∧ t.length ≤ d' ∧ (g.drop k).isSublist t = g.isSublist s) ∧ w = wr)
  case atStart => exact ⟨0, s, B, d, by omega, rfl, rfl, X0, rfl⟩
  case round =>
    obtain ⟨k, t, B', d', hk, rfl, rfl, H, rfl⟩ := hrel
    cases gk with
    | zero =>
      have e : ¬ ((k : Int) < (g.length : Int)) := by omega
      have R := Aside0.mk (show g.isSublist s = true by rw [← H.out.2.2, List.drop_eq_nil_of_le (by omega)]; exact List.isSublist_iff_sublist.2 (List.nil_sublist _))
      go_wp2
      try rw [Exit.noGoto_ret]
      go_ret
      exact ⟨by rw [R.out]; rfl, rfl⟩
    | succ n =>
      have e : (k : Int) < (g.length : Int) := by omega
      have hkl : k < g.length := by omega
      obtain ⟨ad, rfl, hcs⟩ := HG.out.2.2 (by omega)
      have hx := hcs k hkl
      clear hcs
      have DG := Aside0.mk (drop_cons g k hkl)
      obtain ⟨x, ex⟩ : ∃ x, g.getD k 0 = x := ⟨_, rfl⟩
      rw [ex] at hx DG
      clear ex
      have b1 := HB.out
      go_wp2
      go_loopg [1, 17] t.length (fun m s1 s17 wy => ∃ j : Nat, j + m = t.length ∧ s17 = .int .i64 j ∧ s1 = .slice B' t.length d' ∧ Aside0 ((x :: g.drop (k + 1)).isSublist (t.drop j) = g.isSublist s) ∧ w = wy)
      case atStart => exact ⟨0, by omega, rfl, rfl, Aside0.mk (by rw [← H.out.2.2, DG.out]; rfl), rfl⟩
      case round =>
        obtain ⟨j, hj, rfl, rfl, J, rfl⟩ := hrel
        cases gk with
        | zero =>
          have e2 : ¬ ((j : Int) < (t.length : Int)) := by omega
          have R := Aside0.mk (show g.isSublist s = false by rw [← J.out, show t.drop j = [] from List.drop_eq_nil_of_le (by omega), sub_nil])
          go_wp2
          try rw [Exit.noGoto_ret]
          go_ret
          exact ⟨by rw [R.out]; rfl, rfl⟩
        | succ m =>
          have e2 : (j : Int) < (t.length : Int) := by omega
          have hjl : j < t.length := by omega
          obtain ⟨bd, rfl, hbs⟩ := H.out.1.2.2 (by omega)
          have hy := hbs j hjl
          clear hbs
          have DT := Aside0.mk (drop_cons t j hjl)
          obtain ⟨y, ey⟩ : ∃ y, t.getD j 0 = y := ⟨_, rfl⟩
          rw [ey] at hy DT
          clear ey
          have b2 := H.out.1.2.1
          by_cases hxy : x = y
          · subst hxy
            have S := CT.out (some bd) t.length d' (j + 1) (by omega)
            rw [show ((j + 1 : Nat) : Int) = (j : Int) + 1 by omega] at S
            have RD : Aside0 (ReadsInt w .u32 (if d' = j + 1 then some bd else (some bd).map (·.add ((j + 1) * 1))) (t.drop (j + 1)).length (t.drop (j + 1)) ∧ (t.drop (j + 1)).length ≤ d' - (j + 1) ∧ (g.drop (k + 1)).isSublist (t.drop (j + 1)) = g.isSublist s) := Aside0.mk (by
              refine ⟨?_, by rw [List.length_drop]; have := H.out.2.1; omega, ?_⟩
              · rcases reads_drop H.out.1 d' (j + 1) (by omega) with h | h
                · exact h
                · have := H.out.2.1; omega
              · rw [← J.out, DT.out]; simp [List.isSublist])
            rw [show t.length - (j + 1) = (t.drop (j + 1)).length from (List.length_drop ..).symm] at S
            generalize (if d' = j + 1 then some bd else (some bd).map (·.add ((j + 1) * 1))) = B2 at S RD
            generalize d' - (j + 1) = d2 at S RD
            have hy' := hy
            go_wp2
            go_roundg n
            case rel => exact ⟨k + 1, t.drop (j + 1), B2, d2, by omega, by go_num, by rw [List.length_drop], RD, rfl⟩
            case measure => omega
          · have hne : (x == y) = false := beq_eq_false_iff_ne.mpr hxy
            have RD := Aside0.mk (show (x :: g.drop (k + 1)).isSublist (t.drop (j + 1)) = g.isSublist s by rw [← J.out, DT.out, List.isSublist, hne]; rfl)
            clear hxy
            go_wp2
            go_roundg m
            case rel => exact ⟨j + 1, by omega, by go_num, rfl, RD, rfl⟩
            case measure => omega
set_option maxHeartbeats 1000000 in
set_option maxRecDepth 100000 in
theorem lost_no (A B : Option Addr) (c d : Nat) (g s : List Int) (w : World) (hg : ReadsInt w .u32 A g.length g) (hs : ReadsInt w .u32 B s.length s) (hc : g.length ≤ c) (hd : s.length ≤ d) (h : g.isSublist s = false) :
    Calls Try.prog 14 #[.slice A g.length c, .slice B s.length d] w fun e w' => e = .returned (.int .i64 (-1)) ∧ w' = w := by
  have SC := Aside0.mk (sub_calls A B c d g s w hg hs hc hd)
  rw [h] at SC
  clear hg hs hc hd h
  go_enter Try.func14, Try.ntmps14
  go_wp2_with (go_at_call 13; refine SC.out.mono ?_; rintro e w' ⟨rfl, rfl⟩)
  go_ret
  exact ⟨rfl, rfl⟩
set_option maxHeartbeats 1000000 in
set_option maxRecDepth 100000 in
theorem lost_yes (A B : Option Addr) (c d : Nat) (g s : List Int) (w : World) (hg : ReadsInt w .u32 A g.length g) (hs : ReadsInt w .u32 B s.length s) (hc : g.length ≤ c) (hd : s.length ≤ d) (h : g.isSublist s = true) :
    Calls Try.prog 14 #[.slice A g.length c, .slice B s.length d] w fun e w' => e = .returned (.int .i64 ((s.length : Int) - (g.length : Int))) ∧ w' = w := by
  have SC := Aside0.mk (sub_calls A B c d g s w hg hs hc hd)
  rw [h] at SC
  have b1 := hg.2.1
  have b2 := hs.2.1
  have b3 : g.length ≤ s.length := (List.isSublist_iff_sublist.1 h).length_le
  have E : IntKind.i64.wrap ((s.length : Int) - (g.length : Int)) = (s.length : Int) - (g.length : Int) := Go.IntWalk.i64_in _ (by omega)
  have E2 := Aside0.mk E
  clear hg hs hc hd h
  go_enter Try.func14, Try.ntmps14
  go_wp2_with (go_at_call 13; refine SC.out.mono ?_; rintro e w' ⟨rfl, rfl⟩)
  go_ret
  exact ⟨by first | rfl | rw [E2.out], rfl⟩
/-- How many are lost. -/
def lostN (g s : List Int) : Int := if g.isSublist s = true then (s.length : Int) - (g.length : Int) else -1
theorem lost_calls (A B : Option Addr) (c d : Nat) (g s : List Int) (w : World) (hg : ReadsInt w .u32 A g.length g) (hs : ReadsInt w .u32 B s.length s) (hc : g.length ≤ c) (hd : s.length ≤ d) :
    Calls Try.prog 14 #[.slice A g.length c, .slice B s.length d] w fun e w' => e = .returned (.int .i64 (lostN g s)) ∧ w' = w := by
  unfold lostN
  rcases h : g.isSublist s with _ | _
  · exact lost_no A B c d g s w hg hs hc hd h
  · exact lost_yes A B c d g s w hg hs hc hd h
end Go.Proofs.Ytladjllencanlaa.Own
