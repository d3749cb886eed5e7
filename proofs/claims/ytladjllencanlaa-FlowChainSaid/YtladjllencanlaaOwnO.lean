/- FlowLeaves, FlowChain (layer 19). -/
import Derived.Test.YtladjllencanlaaOwnN
namespace Go.Proofs.Ytladjllencanlaa.Own
open Go.RowKit Go.Proofs.Ytladjllencanlaa.PFlowTells Go.Proofs.YtladjllencanlaaW.PrintWords Go.Proofs.YtladjllencanlaaW.PrintLast Go.Proofs.YtladjllencanlaaW.PrintMore
set_option linter.unusedVariables false
set_option linter.unusedSimpArgs false

/-- What is left of the first k numbers. -/
def pick (p : Nat → Bool) (l : List Int) : Nat → List Int
  | 0 => []
  | k + 1 => if p k = true then pick p l k ++ [l.getD k 0] else pick p l k
theorem pick_sub (p : Nat → Bool) (l : List Int) : ∀ k, k ≤ l.length → (pick p l k).Sublist (l.take k)
  | 0, _ => by unfold pick; exact List.nil_sublist _
  | k + 1, hk => by
    have ih := pick_sub p l k (by omega)
    have e : l.take (k + 1) = l.take k ++ [l.getD k 0] := by
      rw [List.take_succ_eq_append_getElem (by omega), List.getD_eq_getElem?_getD, List.getElem?_eq_getElem (by omega)]
      rfl
    unfold pick
    rw [e]
    split
    · exact ih.append (List.Sublist.refl _)
    · exact ih.trans (List.sublist_append_left _ _)
theorem pick_all (p : Nat → Bool) (l : List Int) : (pick p l l.length).Sublist l := by
  have := pick_sub p l l.length (Nat.le_refl _)
  rwa [List.take_length] at this
theorem pick_len (p : Nat → Bool) (l : List Int) (k : Nat) (hk : k ≤ l.length) : (pick p l k).length ≤ k := by
  have := (pick_sub p l k hk).length_le
  rw [List.length_take] at this
  omega
theorem back_iff {g s : List Int} (h : g.Sublist s) : s.isSublist g = ((g.length : Int) == (s.length : Int)) := by
  rw [Bool.eq_iff_iff, List.isSublist_iff_sublist, beq_iff_eq]
  constructor
  · intro k
    have := k.length_le
    have := h.length_le
    omega
  · intro e
    have : g = s := h.eq_of_length (by omega)
    rw [this]
    exact List.Sublist.refl _
theorem lost_sub {g s : List Int} (h : g.Sublist s) : lostN g s = (s.length : Int) - (g.length : Int) := by
  unfold lostN
  rw [if_pos (List.isSublist_iff_sublist.2 h)]
theorem lo8 {a : Int} (h : (Lit.int .u8 a).wf = true) : 0 ≤ a ∧ a ≤ 255 := by
  simp [Lit.wf, IntKind.min, IntKind.max, IntKind.bits, IntKind.signed] at h; omega
theorem oct_get {l : List Int} (h : ∀ x ∈ l, (Lit.int .u8 x).wf = true) (k : Nat) : 0 ≤ l.getD k 0 ∧ l.getD k 0 ≤ 255 := by
  rw [List.getD_eq_getElem?_getD]
  by_cases hk : k < l.length
  · rw [List.getElem?_eq_getElem hk]
    exact lo8 (h _ (List.getElem_mem hk))
  · rw [List.getElem?_eq_none (by omega)]
    simp
def leaveB (o : List Int) (k : Nat) : Bool := decide (o.length = 0) || (o.getD (k % o.length) 0 % 2 == 0)
def chainB (o : List Int) (k : Nat) : Bool := decide (o.length = 0) || decide (0 < o.getD (k % o.length) 0 % 3)
set_option maxHeartbeats 1000000 in
set_option maxRecDepth 100000 in
theorem leaves_big (A B : Option Addr) (c d : Nat) (s o : List Int) (w : World) (hl : 300 < s.length) : Calls Try.prog 9 #[.slice A s.length c, .slice B o.length d] w fun e w' => e = .returned (.bool true) ∧ Below w.heap.size w w' := by
  have e0 : decide ((s.length : Int) > 300) = true := decide_eq_true (by omega)
  clear hl
  go_enter Try.func9, Try.ntmps9
  go_wp2_with fail
  refine (known_calls _).mono ?_
  rintro e w1 ⟨rfl, hb⟩
  have B1 := Aside0.mk hb
  clear hb
  go_wp2
  go_ret
  exact ⟨rfl, B1.out⟩
set_option maxHeartbeats 2000000 in
set_option maxRecDepth 100000 in
theorem leaves_ok (A B : Option Addr) (c d : Nat) (s o : List Int) (w : World) (hr : ReadsInt w .u32 A s.length s) (hc : s.length ≤ c) (ho : ReadsInt w .u8 B o.length o) (hd : o.length ≤ d) (hw : ∀ x ∈ o, (Lit.int .u8 x).wf = true) (hl : ¬ 300 < s.length) : Calls Try.prog 9 #[.slice A s.length c, .slice B o.length d] w fun e w' => e = .returned (.bool true) ∧ Below w.heap.size w w' := by
  have e0 : decide ((s.length : Int) > 300) = false := decide_eq_false (by omega)
  have HR := Aside0.mk hr
  have HC := Aside0.mk hc
  have HO0 := Aside0.mk ho
  have HW := Aside0.mk hw
  have HL := Aside0.mk hl
  clear hr hc ho hd hw hl
  go_enter Try.func9, Try.ntmps9
  go_wp2_with fail
  refine (known_calls _).mono ?_
  rintro e w1 ⟨rfl, hb⟩
  have B1 := Aside0.mk hb
  have HR1 := Aside0.mk (HR.out.below hb)
  have HO := Aside0.mk (HO0.out.below hb)
  clear hb HO0
  go_wp2
  go_loopg [5, 6] s.length (fun n s5 s6 wr => ∃ k : Nat, k + n = s.length ∧ s6 = .int .i64 k ∧ Aside0 (R32 w1 wr s5 (pick (leaveB o) s k)))
  case atStart => exact ⟨0, by omega, rfl, ⟨R32.nil (Below.refl _ _)⟩⟩
  case round =>
    obtain ⟨k, hk, rfl, R⟩ := hrel
    by_cases hlt : k < s.length
    · have e1 : (k : Int) < (s.length : Int) := by omega
      have PL := Aside0.mk (pick_len (leaveB o) s k (by omega))
      have hls := HL.out
      rcases hp : leaveB o k with _ | _
      · have PK := Aside0.mk (show pick (leaveB o) s (k + 1) = pick (leaveB o) s k by show (if leaveB o k = true then _ else _) = _; rw [hp]; rfl)
        have h0 : ¬ o.length = 0 := by intro h0; unfold leaveB at hp; rw [decide_eq_true h0] at hp; simp at hp
        have e2 : ((o.length : Int) == 0) = false := beq_eq_false_iff_ne.mpr (by omega)
        obtain ⟨j, hj⟩ : ∃ j, k % o.length = j := ⟨_, rfl⟩
        have hjl : j < o.length := by rw [← hj]; exact Nat.mod_lt _ (by omega)
        obtain ⟨bd, rfl, hbs⟩ := (HO.out.below R.out.bel).2.2 (by omega)
        have hb := hbs j hjl
        have hr8 := oct_get HW.out j
        clear hbs
        have ek : (k : Int) % (o.length : Int) = (j : Int) := by rw [← hj]; omega
        have hb1 := HO.out.2.1
        have ht : (o.getD j 0 % 2 == 0) = false := by
          unfold leaveB at hp
          rw [hj, Bool.or_eq_false_iff] at hp
          exact hp.2
        generalize o.getD j 0 = b at hb hr8 ht
        obtain ⟨b0, b1⟩ := hr8
        clear hp hj h0
        go_wp2
        go_roundg (s.length - (k + 1))
        case measure => omega
        case rel => exact ⟨k + 1, by omega, by go_num, by rw [PK.out]; exact R⟩
      · have PK := Aside0.mk (show pick (leaveB o) s (k + 1) = pick (leaveB o) s k ++ [s.getD k 0] by show (if leaveB o k = true then _ else _) = _; rw [hp]; rfl)
        have hx : ∃ ad, A = some ad ∧ ∀ W, Below w1.heap.size w1 W → W.cell? (ad.add k) = some (.int .u32 (s.getD k 0)) := by
          obtain ⟨ad, e, _⟩ := HR1.out.2.2 (by omega)
          refine ⟨ad, e, fun W hb => ?_⟩
          obtain ⟨ad2, e2, hc2⟩ := (HR1.out.below hb).2.2 (by omega)
          rw [e] at e2
          obtain rfl := Option.some.inj e2
          exact hc2 k hlt
        obtain ⟨ad, rfl, hcell⟩ := hx
        have hx := hcell _ R.out.bel
        clear hcell
        generalize s.getD k 0 = x at hx PK
        have R1 := Aside0.mk R.out
        have PL2 : Aside0 ((pick (leaveB o) s k).length ≤ 100000) := Aside0.mk (by have := PL.out; omega)
        by_cases h0 : o.length = 0
        · have e2 : ((o.length : Int) == 0) = true := beq_iff_eq.mpr (by omega)
          clear h0 hp
          go_wp2_with (at_builtin; refine append_num rfl _ _ rfl _ _ R1.out x PL2.out rfl rfl ?_; intro v3 w3 R3; rw [← PK.out] at R3; have R3 := Aside0.mk R3)
          go_roundg (s.length - (k + 1))
          case measure => omega
          case rel => exact ⟨k + 1, by omega, by go_num, R3⟩
        · have e2 : ((o.length : Int) == 0) = false := beq_eq_false_iff_ne.mpr (by omega)
          obtain ⟨j, hj⟩ : ∃ j, k % o.length = j := ⟨_, rfl⟩
          have hjl : j < o.length := by rw [← hj]; exact Nat.mod_lt _ (by omega)
          obtain ⟨bd, rfl, hbs⟩ := (HO.out.below R.out.bel).2.2 (by omega)
          have hb := hbs j hjl
          have hr8 := oct_get HW.out j
          clear hbs
          have ek : (k : Int) % (o.length : Int) = (j : Int) := by rw [← hj]; omega
          have hb1 := HO.out.2.1
          have ht : (o.getD j 0 % 2 == 0) = true := by
            unfold leaveB at hp
            rw [hj, decide_eq_false h0, Bool.false_or] at hp
            exact hp
          generalize o.getD j 0 = b at hb hr8 ht
          obtain ⟨b0, b1⟩ := hr8
          clear hp hj h0
          go_wp2_with (at_builtin; refine append_num rfl _ _ rfl _ _ R1.out x PL2.out rfl rfl ?_; intro v3 w3 R3; rw [← PK.out] at R3; have R3 := Aside0.mk R3)
          go_roundg (s.length - (k + 1))
          case measure => omega
          case rel => exact ⟨k + 1, by omega, by go_num, R3⟩
    · have hkl : k = s.length := by omega
      have e1 : ¬ (k : Int) < (s.length : Int) := by omega
      subst hkl
      have PS := Aside0.mk (pick_all (leaveB o) s)
      obtain ⟨A6, c6, rfl, hc6, hr6⟩ := R.out.reads
      have HC6 := Aside0.mk hc6
      have HR6 := Aside0.mk hr6
      have HR2 := Aside0.mk (HR1.out.below R.out.bel)
      have B2 := Aside0.mk (below_then B1.out B1.out.size R.out.bel)
      clear R hc6 hr6
      generalize pick (leaveB o) s s.length = g at PS HC6 HR6 ⊢
      have LS := Aside0.mk (lost_sub PS.out)
      have LE := Aside0.mk PS.out.length_le
      have hls := HL.out
      have b1 := HR2.out.2.1
      have b2 := HR6.out.2.1
      have EW : IntKind.i64.wrap ((s.length : Int) - (g.length : Int)) = (s.length : Int) - (g.length : Int) := Go.IntWalk.i64_in _ (by have := LE.out; omega)
      go_wp2_with fail
      refine (sub_at A6 A c6 c _ s.length g s rfl rfl _ HR6.out HR2.out HC6.out HC.out (List.isSublist_iff_sublist.2 PS.out)).mono ?_
      rintro e wx ⟨rfl, rfl⟩
      go_wp2_with fail
      refine (lost_at A6 A c6 c _ s.length g s rfl rfl _ HR6.out HR2.out HC6.out HC.out LS.out).mono ?_
      rintro e wx ⟨rfl, rfl⟩
      go_wp2_with fail
      refine (sub_at none A 0 c 0 s.length [] s rfl rfl _ ⟨rfl, by simp, fun h => absurd h (by simp)⟩ HR2.out (Nat.le_refl 0) HC.out (List.isSublist_iff_sublist.2 (List.nil_sublist _))).mono ?_
      rintro e wx ⟨rfl, rfl⟩
      go_wp2_with fail
      refine (sub_at A A6 c c6 _ _ s g rfl rfl _ HR2.out HR6.out HC.out HC6.out (back_iff PS.out)).mono ?_
      rintro e wx ⟨rfl, rfl⟩
      go_wp2
      go_ret
      exact ⟨by first | rfl | simp, B2.out⟩
theorem flowLeaves_term (A : Option Addr) (c : Nat) (s : List Int) (B : Option Addr) (d : Nat) (o : List Int) (w : World) (hr : ReadsInt w .u32 A s.length s) (hm : s.length ≤ maxLen) (hw : ∀ y ∈ s, (Lit.int .u32 y).wf = true) (hy : s.length * 4 ≤ 140737488351232) (hn : A = none → c = 0) (hc : s.length ≤ c)
    (hr1 : ReadsInt w .u8 B o.length o) (hm1 : o.length ≤ maxLen) (hw1 : ∀ y ∈ o, (Lit.int .u8 y).wf = true) (hy1 : o.length * 1 ≤ 140737488351232) (hn1 : B = none → d = 0) (hd : o.length ≤ d) :
    Calls Try.prog 9 #[.slice A s.length c, .slice B o.length d] w fun e w' => e = .returned (.bool true) ∧ Below w.heap.size w w' := by
  by_cases hl : 300 < s.length
  · exact leaves_big A B c d s o w hl
  · exact leaves_ok A B c d s o w hr hc hr1 hd hw1 hl
end Go.Proofs.Ytladjllencanlaa.Own
