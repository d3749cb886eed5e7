/- FlowChain (layer 19). -/
import Derived.Test.YtladjllencanlaaOwnO
namespace Go.Proofs.Ytladjllencanlaa.Own
open Go.RowKit Go.Proofs.Ytladjllencanlaa.PFlowTells Go.Proofs.YtladjllencanlaaW.PrintWords Go.Proofs.YtladjllencanlaaW.PrintLast Go.Proofs.YtladjllencanlaaW.PrintMore
set_option linter.unusedVariables false
set_option linter.unusedSimpArgs false

set_option maxHeartbeats 1000000 in
set_option maxRecDepth 100000 in
theorem chain_big (A B D : Option Addr) (c d f : Nat) (s o m : List Int) (w : World) (hl : 200 < s.length) : Calls Try.prog 4 #[.slice A s.length c, .slice B o.length d, .slice D m.length f] w fun e w' => e = .returned (.bool true) ∧ Below w.heap.size w w' := by
  have e0 : decide ((s.length : Int) > 200) = true := decide_eq_true (by omega)
  clear hl
  go_enter Try.func4, Try.ntmps4
  go_wp2_with fail
  refine (known_calls _).mono ?_
  rintro e w1 ⟨rfl, hb⟩
  have B1 := Aside0.mk hb
  clear hb
  go_wp2
  go_ret
  exact ⟨rfl, B1.out⟩
set_option maxHeartbeats 4000000 in
set_option maxRecDepth 100000 in
theorem chain_ok (A B D : Option Addr) (c d f : Nat) (s o m : List Int) (w : World) (hr : ReadsInt w .u32 A s.length s) (hc : s.length ≤ c) (ho : ReadsInt w .u8 B o.length o) (hw : ∀ x ∈ o, (Lit.int .u8 x).wf = true) (hm : ReadsInt w .u8 D m.length m) (hw2 : ∀ x ∈ m, (Lit.int .u8 x).wf = true) (hl : ¬ 200 < s.length) : Calls Try.prog 4 #[.slice A s.length c, .slice B o.length d, .slice D m.length f] w fun e w' => e = .returned (.bool true) ∧ Below w.heap.size w w' := by
  have e0 : decide ((s.length : Int) > 200) = false := decide_eq_false (by omega)
  have HR := Aside0.mk hr
  have HC := Aside0.mk hc
  have HO0 := Aside0.mk ho
  have HM0 := Aside0.mk hm
  have HW := Aside0.mk hw
  have HW2 := Aside0.mk hw2
  have HL := Aside0.mk hl
  clear hr hc ho hm hw hw2 hl
  go_enter Try.func4, Try.ntmps4
  go_wp2_with fail
  refine (known_calls _).mono ?_
  rintro e w1 ⟨rfl, hb⟩
  have B1 := Aside0.mk hb
  have HR1 := Aside0.mk (HR.out.below hb)
  have HO := Aside0.mk (HO0.out.below hb)
  have HO1 := Aside0.mk (HM0.out.below hb)
  clear hb HO0 HM0
  go_wp2
  go_loopg [7, 9] s.length (fun n s7 s9 wr => ∃ k : Nat, k + n = s.length ∧ s9 = .int .i64 k ∧ Aside0 (R32 w1 wr s7 (pick (chainB o) s k)))
  case atStart => exact ⟨0, by omega, rfl, ⟨R32.nil (Below.refl _ _)⟩⟩
  case round =>
    obtain ⟨k, hk, rfl, R⟩ := hrel
    by_cases hlt : k < s.length
    · have e1 : (k : Int) < (s.length : Int) := by omega
      have PL := Aside0.mk (pick_len (chainB o) s k (by omega))
      have hls := HL.out
      rcases hp : chainB o k with _ | _
      · have PK := Aside0.mk (show pick (chainB o) s (k + 1) = pick (chainB o) s k by show (if chainB o k = true then _ else _) = _; rw [hp]; rfl)
        have h0 : ¬ o.length = 0 := by intro h0; unfold chainB at hp; rw [decide_eq_true h0] at hp; simp at hp
        have e2 : ((o.length : Int) == 0) = false := beq_eq_false_iff_ne.mpr (by omega)
        obtain ⟨j, hj⟩ : ∃ j, k % o.length = j := ⟨_, rfl⟩
        have hjl : j < o.length := by rw [← hj]; exact Nat.mod_lt _ (by omega)
        obtain ⟨bd, rfl, hbs⟩ := (HO.out.below R.out.bel).2.2 (by omega)
        have hb := hbs j hjl
        have hr8 := oct_get HW.out j
        clear hbs
        have ek : (k : Int) % (o.length : Int) = (j : Int) := by rw [← hj]; omega
        have hb1 := HO.out.2.1
        have ht : decide (0 < o.getD j 0 % 3) = false := by
          unfold chainB at hp
          rw [hj, Bool.or_eq_false_iff] at hp
          exact hp.2
        generalize o.getD j 0 = b at hb hr8 ht
        obtain ⟨b0, b1⟩ := hr8
        clear hp hj h0
        go_wp2
        go_roundg (s.length - (k + 1))
        case measure => omega
        case rel => exact ⟨k + 1, by omega, by go_num, by rw [PK.out]; exact R⟩
      · have PK := Aside0.mk (show pick (chainB o) s (k + 1) = pick (chainB o) s k ++ [s.getD k 0] by show (if chainB o k = true then _ else _) = _; rw [hp]; rfl)
        have hx : ∃ ad, A = some ad ∧ ∀ W, Below w1.heap.size w1 W → W.cell? (ad.add k) = some (.int .u32 (s.getD k 0)) := by
          obtain ⟨ad, e, _⟩ := HR1.out.2.2 (by omega)
          refine ⟨ad, e, fun W hb => ?_⟩
          obtain ⟨ad2, e2, hc2⟩ := (HR1.out.below hb).2.2 (by omega)
          rw [e] at e2
          obtain rfl := Option.some.inj e2
          exact hc2 k hlt
        obtain ⟨ad, rfl, hcell⟩ := hx
        have hx := hcell _ R.out.bel
        clear hcell
        generalize s.getD k 0 = x at hx PK
        have R1 := Aside0.mk R.out
        have PL2 : Aside0 ((pick (chainB o) s k).length ≤ 100000) := Aside0.mk (by have := PL.out; omega)
        by_cases h0 : o.length = 0
        · have e2 : ((o.length : Int) == 0) = true := beq_iff_eq.mpr (by omega)
          clear h0 hp
          go_wp2_with (at_builtin; refine append_num rfl _ _ rfl _ _ R1.out x PL2.out rfl rfl ?_; intro v3 w3 R3; rw [← PK.out] at R3; have R3 := Aside0.mk R3)
          go_roundg (s.length - (k + 1))
          case measure => omega
          case rel => exact ⟨k + 1, by omega, by go_num, R3⟩
        · have e2 : ((o.length : Int) == 0) = false := beq_eq_false_iff_ne.mpr (by omega)
          obtain ⟨j, hj⟩ : ∃ j, k % o.length = j := ⟨_, rfl⟩
          have hjl : j < o.length := by rw [← hj]; exact Nat.mod_lt _ (by omega)
          obtain ⟨bd, rfl, hbs⟩ := (HO.out.below R.out.bel).2.2 (by omega)
          have hb := hbs j hjl
          have hr8 := oct_get HW.out j
          clear hbs
          have ek : (k : Int) % (o.length : Int) = (j : Int) := by rw [← hj]; omega
          have hb1 := HO.out.2.1
          have ht : decide (0 < o.getD j 0 % 3) = true := by
            unfold chainB at hp
            rw [hj, decide_eq_false h0, Bool.false_or] at hp
            exact hp
          generalize o.getD j 0 = b at hb hr8 ht
          obtain ⟨b0, b1⟩ := hr8
          clear hp hj h0
          go_wp2_with (at_builtin; refine append_num rfl _ _ rfl _ _ R1.out x PL2.out rfl rfl ?_; intro v3 w3 R3; rw [← PK.out] at R3; have R3 := Aside0.mk R3)
          go_roundg (s.length - (k + 1))
          case measure => omega
          case rel => exact ⟨k + 1, by omega, by go_num, R3⟩
    · have hkl : k = s.length := by omega
      have e1 : ¬ (k : Int) < (s.length : Int) := by omega
      subst hkl
      have PM := Aside0.mk (pick_all (chainB o) s)
      obtain ⟨AM, cM, rfl, hcM, hrM⟩ := R.out.reads
      have HCM := Aside0.mk hcM
      have HM := Aside0.mk hrM
      have HR2 := Aside0.mk (HR1.out.below R.out.bel)
      have HO2 := Aside0.mk (HO1.out.below R.out.bel)
      have B2 := Aside0.mk (below_then B1.out B1.out.size R.out.bel)
      clear R hcM hrM
      generalize pick (chainB o) s s.length = mid at PM HCM HM ⊢
      have HL2 := Aside0.mk (show ¬ 200 < mid.length by have := PM.out.length_le; have := HL.out; omega)
      obtain ⟨wm, rfl⟩ : ∃ wm, wm = wr := ⟨_, rfl⟩
      go_wp2
      go_loopg [8, 10] mid.length (fun n s8 s10 wr => ∃ k : Nat, k + n = mid.length ∧ s10 = .int .i64 k ∧ Aside0 (R32 wm wr s8 (pick (chainB m) mid k)))
      case atStart => exact ⟨0, by omega, rfl, ⟨R32.nil (Below.refl _ _)⟩⟩
      case round =>
        obtain ⟨k, hk, rfl, R⟩ := hrel
        by_cases hlt : k < mid.length
        · have e1 : (k : Int) < (mid.length : Int) := by omega
          have PL := Aside0.mk (pick_len (chainB m) mid k (by omega))
          have hls := HL2.out
          rcases hp : chainB m k with _ | _
          · have PK := Aside0.mk (show pick (chainB m) mid (k + 1) = pick (chainB m) mid k by show (if chainB m k = true then _ else _) = _; rw [hp]; rfl)
            have h0 : ¬ m.length = 0 := by intro h0; unfold chainB at hp; rw [decide_eq_true h0] at hp; simp at hp
            have e2 : ((m.length : Int) == 0) = false := beq_eq_false_iff_ne.mpr (by omega)
            obtain ⟨j, hj⟩ : ∃ j, k % m.length = j := ⟨_, rfl⟩
            have hjl : j < m.length := by rw [← hj]; exact Nat.mod_lt _ (by omega)
            obtain ⟨bd, rfl, hbs⟩ := (HO2.out.below R.out.bel).2.2 (by omega)
            have hb := hbs j hjl
            have hr8 := oct_get HW2.out j
            clear hbs
            have ek : (k : Int) % (m.length : Int) = (j : Int) := by rw [← hj]; omega
            have hb1 := HO2.out.2.1
            have ht : decide (0 < m.getD j 0 % 3) = false := by
              unfold chainB at hp
              rw [hj, Bool.or_eq_false_iff] at hp
              exact hp.2
            generalize m.getD j 0 = b at hb hr8 ht
            obtain ⟨b0, b1⟩ := hr8
            clear hp hj h0
            go_wp2
            go_roundg (mid.length - (k + 1))
            case measure => omega
            case rel => exact ⟨k + 1, by omega, by go_num, by rw [PK.out]; exact R⟩
          · have PK := Aside0.mk (show pick (chainB m) mid (k + 1) = pick (chainB m) mid k ++ [mid.getD k 0] by show (if chainB m k = true then _ else _) = _; rw [hp]; rfl)
            have hx : ∃ ad, AM = some ad ∧ ∀ W, Below wm.heap.size wm W → W.cell? (ad.add k) = some (.int .u32 (mid.getD k 0)) := by
              obtain ⟨ad, e, _⟩ := HM.out.2.2 (by omega)
              refine ⟨ad, e, fun W hb => ?_⟩
              obtain ⟨ad2, e2, hc2⟩ := (HM.out.below hb).2.2 (by omega)
              rw [e] at e2
              obtain rfl := Option.some.inj e2
              exact hc2 k hlt
            obtain ⟨ad, rfl, hcell⟩ := hx
            have hx := hcell _ R.out.bel
            clear hcell
            generalize mid.getD k 0 = x at hx PK
            have R1 := Aside0.mk R.out
            have PL2 : Aside0 ((pick (chainB m) mid k).length ≤ 100000) := Aside0.mk (by have := PL.out; omega)
            by_cases h0 : m.length = 0
            · have e2 : ((m.length : Int) == 0) = true := beq_iff_eq.mpr (by omega)
              clear h0 hp
              go_wp2_with (at_builtin; refine append_num rfl _ _ rfl _ _ R1.out x PL2.out rfl rfl ?_; intro v3 w3 R3; rw [← PK.out] at R3; have R3 := Aside0.mk R3)
              go_roundg (mid.length - (k + 1))
              case measure => omega
              case rel => exact ⟨k + 1, by omega, by go_num, R3⟩
            · have e2 : ((m.length : Int) == 0) = false := beq_eq_false_iff_ne.mpr (by omega)
              obtain ⟨j, hj⟩ : ∃ j, k % m.length = j := ⟨_, rfl⟩
              have hjl : j < m.length := by rw [← hj]; exact Nat.mod_lt _ (by omega)
              obtain ⟨bd, rfl, hbs⟩ := (HO2.out.below R.out.bel).2.2 (by omega)
              have hb := hbs j hjl
              have hr8 := oct_get HW2.out j
              clear hbs
              have ek : (k : Int) % (m.length : Int) = (j : Int) := by rw [← hj]; omega
              have hb1 := HO2.out.2.1
              have ht : decide (0 < m.getD j 0 % 3) = true := by
                unfold chainB at hp
                rw [hj, decide_eq_false h0, Bool.false_or] at hp
                exact hp
              generalize m.getD j 0 = b at hb hr8 ht
              obtain ⟨b0, b1⟩ := hr8
              clear hp hj h0
              go_wp2_with (at_builtin; refine append_num rfl _ _ rfl _ _ R1.out x PL2.out rfl rfl ?_; intro v3 w3 R3; rw [← PK.out] at R3; have R3 := Aside0.mk R3)
              go_roundg (mid.length - (k + 1))
              case measure => omega
              case rel => exact ⟨k + 1, by omega, by go_num, R3⟩
        · have hkl : k = mid.length := by omega
          have e1 : ¬ (k : Int) < (mid.length : Int) := by omega
          subst hkl
          have PG := Aside0.mk (pick_all (chainB m) mid)
          obtain ⟨A6, c6, rfl, hc6, hr6⟩ := R.out.reads
          have HC6 := Aside0.mk hc6
          have HR6 := Aside0.mk hr6
          have HR3 := Aside0.mk (HR2.out.below R.out.bel)
          have HM3 := Aside0.mk (HM.out.below R.out.bel)
          have B3 := Aside0.mk (below_then B2.out B2.out.size R.out.bel)
          clear R hc6 hr6
          generalize pick (chainB m) mid mid.length = g at PG HC6 HR6 ⊢
          have PS := Aside0.mk (PG.out.trans PM.out)
          have L1 := PG.out.length_le
          have L2 := PM.out.length_le
          have L3 := HL.out
          obtain ⟨r1, hr1⟩ : ∃ r1 : Int, (mid.length : Int) - (g.length : Int) = r1 := ⟨_, rfl⟩
          obtain ⟨r2, hr2⟩ : ∃ r2 : Int, (s.length : Int) - (mid.length : Int) = r2 := ⟨_, rfl⟩
          have q0 : 0 ≤ r1 := by omega
          have q1 : r1 ≤ 200 := by omega
          have q2 : 0 ≤ r2 := by omega
          have q3 : r2 ≤ 200 := by omega
          have E1 := Aside0.mk (show lostN g mid = r1 by rw [lost_sub PG.out]; exact hr1)
          have E2 := Aside0.mk (show lostN mid s = r2 by rw [lost_sub PM.out]; exact hr2)
          have E3 := Aside0.mk (show lostN g s = r1 + r2 by rw [lost_sub PS.out]; omega)
          clear hr1 hr2 L1 L2 L3
          go_wp2_with fail
          refine (sub_at A6 A c6 c _ s.length g s rfl rfl _ HR6.out HR3.out HC6.out HC.out (List.isSublist_iff_sublist.2 PS.out)).mono ?_
          rintro e wx ⟨rfl, rfl⟩
          go_wp2_with fail
          refine (lost_at A6 AM c6 cM _ _ g mid rfl rfl _ HR6.out HM3.out HC6.out HCM.out E1.out).mono ?_
          rintro e wx ⟨rfl, rfl⟩
          go_wp2_with fail
          refine (lost_at AM A cM c _ s.length mid s rfl rfl _ HM3.out HR3.out HCM.out HC.out E2.out).mono ?_
          rintro e wx ⟨rfl, rfl⟩
          go_wp2_with fail
          refine (lost_at A6 A c6 c _ s.length g s rfl rfl _ HR6.out HR3.out HC6.out HC.out E3.out).mono ?_
          rintro e wx ⟨rfl, rfl⟩
          go_wp2
          go_ret
          exact ⟨by first | rfl | simp, B3.out⟩
theorem flowChain_term (A : Option Addr) (c : Nat) (s : List Int) (B : Option Addr) (d : Nat) (o : List Int) (D : Option Addr) (f : Nat) (m : List Int) (w : World) (hr : ReadsInt w .u32 A s.length s) (hm : s.length ≤ maxLen) (hw : ∀ y ∈ s, (Lit.int .u32 y).wf = true) (hy : s.length * 4 ≤ 140737488351232) (hn : A = none → c = 0) (hc : s.length ≤ c)
    (hr1 : ReadsInt w .u8 B o.length o) (hm1 : o.length ≤ maxLen) (hw1 : ∀ y ∈ o, (Lit.int .u8 y).wf = true) (hy1 : o.length * 1 ≤ 140737488351232) (hn1 : B = none → d = 0) (hd : o.length ≤ d)
    (hr2 : ReadsInt w .u8 D m.length m) (hm2 : m.length ≤ maxLen) (hw2 : ∀ y ∈ m, (Lit.int .u8 y).wf = true) (hy2 : m.length * 1 ≤ 140737488351232) (hn2 : D = none → f = 0) (hf : m.length ≤ f) :
    Calls Try.prog 4 #[.slice A s.length c, .slice B o.length d, .slice D m.length f] w fun e w' => e = .returned (.bool true) ∧ Below w.heap.size w w' := by
  by_cases hl : 200 < s.length
  · exact chain_big A B D c d f s o m w hl
  · exact chain_ok A B D c d f s o m w hr hc hr1 hw1 hr2 hw2 hl
end Go.Proofs.Ytladjllencanlaa.Own
