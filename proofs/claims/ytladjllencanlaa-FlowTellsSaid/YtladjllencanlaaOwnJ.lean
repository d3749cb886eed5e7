/- flow.Flows (layer 19). -/
import Derived.Test.YtladjllencanlaaOwnI
namespace Go.Proofs.Ytladjllencanlaa.Own
open Go.Sort Go.RowKit Go.Proofs.Ytladjllencanlaa.PFlowTells Go.Proofs.YtladjllencanlaaW.PrintWords Go.Proofs.YtladjllencanlaaW.PrintLast Go.Proofs.YtladjllencanlaaW.PrintMore
set_option linter.unusedVariables false
set_option linter.unusedSimpArgs false

def flOf (x : S40) : S27 := ⟨x.f0, x.f1, x.f2⟩
/-- The flows of packets, each once, in order. -/
def flowsOf (l : List S40) : List S27 := Lib.compactUpTo (sorted27 (l.map flOf)) (sorted27 (l.map flOf)).size
def Flws (w : World) (l : List S40) (e : Ending) (w' : World) : Prop := ∃ A c, e = .returned (.slice A (flowsOf l).length c) ∧ Kd.C k27 w' A (flowsOf l).length (flowsOf l) ∧ (flowsOf l).length ≤ c ∧ Below w.heap.size w w'
/-- A row of flows of the call's own. -/
def FRow (w0 w : World) (base : Nat) (v : Value) (l : List S27) : Prop := w.ownsRow base 27 3 v l.length (l.flatMap enc27) ∧ Below w0.heap.size w0 w ∧ w0.heap.size ≤ base ∧ base ≤ w.heap.size
theorem FRow.bel {w0 w : World} {base : Nat} {v : Value} {l : List S27} (h : FRow w0 w base v l) : Below w0.heap.size w0 w := h.2.1
theorem FRow.below {w0 w w1 : World} {base : Nat} {v : Value} {l : List S27} (h : FRow w0 w base v l) (hb : Below w.heap.size w w1) : FRow w0 w1 base v l :=
  ⟨pw_own_below h.1 hb, below_then h.2.1 h.2.1.size hb, h.2.2.1, Nat.le_trans h.2.2.2 hb.size⟩
theorem flat_get (l : List S27) (i : Nat) (hi : i < l.length) : (l.flatMap enc27)[i * 3]? = some (.int .i64 (l[i]).f0) ∧ (l.flatMap enc27)[i * 3 + 1]? = some (.int .i64 (l[i]).f1) ∧ (l.flatMap enc27)[i * 3 + 2]? = some (.int .i64 (l[i]).f2) := by
  induction l generalizing i with
  | nil => simp at hi
  | cons x r ih =>
    rw [List.flatMap_cons]
    match i with
    | 0 => exact ⟨rfl, rfl, rfl⟩
    | j + 1 =>
      obtain ⟨h0, h1, h2⟩ := ih j (by simpa using hi)
      have e : ∀ q, (enc27 x ++ r.flatMap enc27)[(j + 1) * 3 + q]? = (r.flatMap enc27)[j * 3 + q]? := fun q => by
        rw [List.getElem?_append_right (by show 3 ≤ _; omega)]
        congr 1
        show (j + 1) * 3 + q - 3 = _
        omega
      exact ⟨(e 0).trans h0, (e 1).trans h1, (e 2).trans h2⟩
theorem FRow.block {w0 w : World} {base : Nat} {v : Value} {l : List S27} (h : FRow w0 w base v l) : (v = .slice none 0 0 ∧ l = []) ∨ ∃ g c, v = .slice (some ⟨g, 0, none⟩) l.length c ∧ FB w g l.toArray ∧ w0.heap.size ≤ g ∧ l.length ≤ c := by
  obtain ⟨⟨hll, hv⟩, _, hb, _⟩ := h
  rcases hv with ⟨rfl, hn⟩ | ⟨g, cap, cur, rfl, hg, hh, hc, hm, hs, ht⟩
  · exact .inl ⟨rfl, List.eq_nil_of_length_eq_zero hn⟩
  · refine .inr ⟨g, cap, rfl, ⟨cur, hh, fun i hi => ?_⟩, by omega, hc⟩
    have hi' : i < l.length := by simpa using hi
    obtain ⟨h0, h1, h2⟩ := flat_get l i hi'
    have e : l.toArray[i]! = l[i] := by rw [getElem!_pos _ i hi]; simp
    have a : ∀ q, q < 3 → cur[i * 3 + q]? = (l.flatMap enc27)[i * 3 + q]? := fun q hq => by
      rw [← ht, List.getElem?_take_of_lt (by omega), Array.getElem?_toList]
    rw [e]
    exact ⟨(a 0 (by omega)).trans h0, (a 1 (by omega)).trans h1, (a 2 (by omega)).trans h2⟩
/-- append of a flow onto a row of the call's own. -/
theorem append_flow {ops : Array Oper} {rest : List Oper} {o : Oper} {a : Act} {Q : Exit → Act → World → Prop} {w0 w : World} (hgd : o.guard = none) (s x : Operand)
    (ho : o.op = .call { callee := .builtin .append, args := #[s, x], argTypes := #[24, 24] })
    (v : Value) (l : List S27) (R : FRow w0 w w0.heap.size v l) (p : S27) (hlen : l.length ≤ 1000) (hs : a.eval s = v) (hx : a.eval x = .slice (some ⟨w.heap.size, 0, none⟩) 1 1)
    (h : ∀ v' w', FRow w0 w' w0.heap.size v' (l ++ [p]) → wpList Try.prog ops Q rest (a.put o.dst v') w') : wpList Try.prog ops Q (o :: rest) a (w.alloc (.cells #[.int .i64 p.f0, .int .i64 p.f1, .int .i64 p.f2] 27)) := by
  refine print_append_cells (w0 := w0) w0.heap.size hgd s x 24 27 (.agg #[(.int .i64 0), (.int .i64 0), (.int .i64 0)]) 3 24 ho Try.underlying24 info27 rfl (by decide) (by decide) v l.length (l.flatMap enc27) [.int .i64 p.f0, .int .i64 p.f1, .int .i64 p.f2] hs hx rfl ?_ R.1 R.2.1 R.2.2.2 ?_ ?_
  · intro u hu
    simp at hu
    rcases hu with rfl | rfl | rfl <;> rfl
  · omega
  · intro v1 w1 ho1 hb1 hg1 _
    refine h v1 w1 ⟨?_, ?_, R.2.2.1, Nat.le_trans R.2.2.2 hg1.size⟩
    · rw [List.flatMap_append, List.length_append]
      exact ho1
    · exact hb1
theorem compact_none (w : World) : Calls Try.prog 24 #[.slice none 0 0] w fun e w' => e = .returned (.slice none 0 0) ∧ w' = w := by
  go_enter Try.func24, Try.ntmps24
  go_wp2
  go_ret
  exact ⟨rfl, rfl⟩
theorem compact_at (w : World) (g c : Nat) (d : Array S27) (n : Nat) (hn : d.size = n) (hB : FB w g d) (hc : d.size ≤ c) (hm : d.size ≤ 1000000) :
    Calls Try.prog 24 #[.slice (some ⟨g, 0, none⟩) n c] w (Cmp w g c d) := by
  subst hn
  exact compact_calls w g c d hB hc hm
theorem sort_at (g cap : Nat) (l : List S27) (n : Nat) (hn : l.length = n) (w : World) (hH : HoldsK enc27 3 w g 0 l.toArray) (hg : g < w.heap.size) (hl : l.length ≤ 1000000) :
    Calls Try.prog 22 #[.slice (some ⟨g, 0, none⟩) n cap, .func (.func 23) #[] #[]] w fun e w' => e = .returned (.tuple #[]) ∧ ∃ n os, w' = sortWorldK enc27 3 w g 0 n (sorted27 l) os := by
  subst hn
  exact sort_calls g cap l w hH hg hl
theorem sorted_size (l : List S27) : (sorted27 l).size = l.length := by unfold sorted27; simp
theorem compact_le (d : Array S27) : (Lib.compactUpTo d d.size).length ≤ d.size := by
  unfold Lib.compactUpTo
  rw [List.length_map]
  exact Nat.le_trans (List.length_filter_le _ _) (by simp)
theorem take_map (l : List S40) (k : Nat) (hk : k < l.length) : (l.take (k + 1)).map flOf = (l.take k).map flOf ++ [flOf (rd_T40 l k)] := by
  rw [List.take_succ_eq_append_getElem hk, List.map_append]
  unfold rd_T40
  rw [Int.toNat_natCast, List.getD_eq_getElem?_getD, List.getElem?_eq_getElem hk]
  rfl
set_option maxHeartbeats 800000 in
set_option maxRecDepth 100000 in
theorem flows_calls (A : Option Addr) (c : Nat) (l : List S40) (w : World) (hr : Kd.C k40 w A l.length l) (hc : l.length ≤ c) (hl : l.length ≤ 1000) :
    Calls Try.prog 12 #[.slice A l.length c] w (Flws w l) := by
  have HR := Aside0.mk hr
  clear hr hc
  go_enter Try.func12, Try.ntmps12
  go_wp2
  go_loopg [3, 8] l.length (fun n s3 s8 wr => ∃ k : Nat, k + n = l.length ∧ s8 = .int .i64 k ∧ Aside0 (FRow w wr w.heap.size s3 ((l.take k).map flOf)))
  case atStart => exact ⟨0, by omega, rfl, ⟨⟨own_nil _ _ _ _, Below.refl _ _, Nat.le_refl _, Nat.le_refl _⟩⟩⟩
  case round =>
    obtain ⟨k, hk, rfl, R⟩ := hrel
    by_cases hlt : k < l.length
    · obtain ⟨ad, rfl, x0, x1, x2, x3⟩ := at_T40 (Kd.C_below HR.out R.out.bel) (k : Int) (by omega) (by omega)
      rw [Int.toNat_natCast] at x0 x1 x2 x3
      have e1 : (k : Int) < (l.length : Int) := by omega
      have TM := Aside0.mk (take_map l k hlt)
      generalize rd_T40 l k = x at x0 x1 x2 x3 TM
      go_wp2_with fail
      refine (flow_of.calls x.f0 x.f1 x.f2 x.f3 _ _ _ _ rfl).mono ?_
      rintro e w2 ⟨rfl, hb⟩
      have R2 := Aside0.mk (FRow.below (R.out.below (below_alloc (Below.refl _ _) _)) hb)
      clear hb x0 x1 x2 x3
      have HLN : Aside0 (((l.take k).map flOf).length ≤ 1000) := Aside0.mk (by rw [List.length_map, List.length_take]; omega)
      go_wp2_with (at_builtin; refine append_flow rfl _ _ rfl _ _ R2.out (flOf x) HLN.out rfl rfl ?_; intro v3 w3 R3; rw [← TM.out] at R3; have R3 := Aside0.mk R3)
      go_roundg (l.length - (k + 1))
      case measure => omega
      case rel => exact ⟨k + 1, by omega, by go_num, R3⟩
    · have hkl : k = l.length := by omega
      have e1 : ¬ (k : Int) < (l.length : Int) := by omega
      have R1 : FRow w wr w.heap.size u3 (l.map flOf) := by have := R.out; rwa [List.take_of_length_le (by omega)] at this
      have HBL := Aside0.mk R1.bel
      rcases R1.block with ⟨rfl, hnil⟩ | ⟨g, c2, rfl, hB, hg, hc2⟩
      · have FE := Aside0.mk (show flowsOf l = [] by unfold flowsOf; rw [hnil]; simp [sorted27, Lib.compactUpTo])
        clear R1 R hnil
        go_wp2_with fail
        refine (sort_none _).mono ?_
        rintro e w2 ⟨rfl, rfl⟩
        go_wp2_with fail
        refine (compact_none _).mono ?_
        rintro e w3 ⟨rfl, rfl⟩
        go_wp2
        go_ret
        exact ⟨none, 0, by rw [FE.out]; rfl, by rw [FE.out]; exact ⟨rfl, by simp, fun h => absurd h (by simp)⟩, by rw [FE.out]; exact Nat.le_refl _, HBL.out⟩
      · have HB := Aside0.mk hB
        have HG := Aside0.mk hg
        have HC2 := Aside0.mk hc2
        have HN : Aside0 ((l.map flOf).length ≤ 1000000) := Aside0.mk (by rw [List.length_map]; omega)
        have HLT := Aside0.mk (show g < wr.heap.size by obtain ⟨cur, hh, _⟩ := hB; exact blk_lt hh)
        clear R1 R hB hg hc2
        go_wp2_with fail
        refine (sort_at g c2 (l.map flOf) l.length (List.length_map ..) _ HB.out.holds HLT.out HN.out).mono ?_
        rintro e w2 ⟨rfl, n, os, rfl⟩
        have hsz := sorted_size (l.map flOf)
        obtain ⟨hF, hU⟩ := sorted_block (n := n) (os := os) HB.out (d' := sorted27 (l.map flOf)) (by rw [hsz]; simp)
        generalize sortWorldK enc27 3 wr g 0 n (sorted27 (l.map flOf)) os = w2 at hF hU ⊢
        have HF := Aside0.mk hF
        have HU := Aside0.mk hU
        have HS := Aside0.mk hsz
        clear hF hU hsz
        go_wp2_with fail
        refine (compact_at w2 g c2 (sorted27 (l.map flOf)) l.length (by rw [HS.out, List.length_map]) HF.out (by rw [HS.out]; exact HC2.out) (by rw [HS.out]; exact HN.out)).mono ?_
        rintro e w3 ⟨rfl, hF, hU⟩
        have HF3 := Aside0.mk hF
        have HU3 := Aside0.mk (hU.below (HU.out.below HBL.out HG.out) HG.out)
        clear hF hU
        go_wp2
        go_ret
        have hle : (flowsOf l).length ≤ (l.map flOf).length := by rw [← HS.out]; exact compact_le _
        exact ⟨some ⟨g, 0, none⟩, c2, rfl, FB.reads HF3.out (Nat.le_trans hle HN.out), Nat.le_trans hle HC2.out, HU3.out⟩
end Go.Proofs.Ytladjllencanlaa.Own
