/- Rows of bytes of the call's own; contracts of two, four, Sound (layer 3). -/
import Derived.Test.YtamaemlhnkabcaaOwnA
import Derived.Test.YtamaemlhnkabcaaPWireRefusesx2
import Derived.Laws.AppendOwnNone
import Derived.OwnWalk
import Derived.Deep.AppendLies
import Derived.Deep.RegionLaw
namespace Go.Proofs.Ytamaemlhnkabcaa.Own
open Go.RowKit Go.Proofs.Ytamaemlhnkabcaa.Crc Go.Proofs.Ytamaemlhnkabcaa.PWireRefuses Go.Proofs.YtamaemlhnkabcaaW.PrintWords Go.Proofs.YtamaemlhnkabcaaW.PrintLast Go.Proofs.YtamaemlhnkabcaaW.PrintMore
set_option linter.unusedVariables false
set_option linter.unusedSimpArgs false

/-- A block of bytes is read as they are. -/
theorem reads_block {W : World} {g : Nat} {cs : Array Value} {fr : Nat × Nat} (h : W.heap[g]? = some (.cells cs 5 fr)) (l : List Int) (hn : l.length ≤ 9223372036854775807) (hc : ∀ k, k < l.length → cs[k]? = some (.int .u8 (l.getD k 0))) : ReadsInt W .u8 (some ⟨g, 0, none⟩) l.length l :=
  ⟨rfl, hn, fun _ => ⟨_, rfl, fun j hj => by rw [add_plain]; exact (cell_of_row W g j cs 5 fr h).trans (hc j hj)⟩⟩
theorem Oct.cons {a : Int} {l : List Int} (h0 : 0 ≤ a) (h1 : a ≤ 255) (h : Oct l) : Oct (a :: l) := by
  intro x hx
  rcases List.mem_cons.1 hx with rfl | hx
  · simp [Lit.wf, IntKind.min, IntKind.max, IntKind.bits, IntKind.signed]; omega
  · exact h x hx
theorem Oct.nil : Oct [] := fun x hx => by simp at hx
theorem Oct.two {a b : Int} (a0 : 0 ≤ a) (a1 : a ≤ 255) (b0 : 0 ≤ b) (b1 : b ≤ 255) : Oct [a, b] := Oct.cons a0 a1 (Oct.cons b0 b1 Oct.nil)
theorem ret_bool {a b : Bool} (h : a = b) : Ending.returned (.bool a) = Ending.returned (.bool b) := by rw [h]

/-- A slice of the call's own that holds these bytes; its block lies from base on; what lay in w0 is as it was. -/
def Row (w0 w : World) (base : Nat) (v : Value) (l : List Int) : Prop := w.ownsRow base 5 1 v l.length (nums .u8 l) ∧ Below w0.heap.size w0 w ∧ w0.heap.size ≤ base ∧ base ≤ w.heap.size ∧ Oct l
theorem Row.nil {w0 w : World} (hb : Below w0.heap.size w0 w) : Row w0 w w.heap.size (.slice none 0 0) [] := ⟨own_nil _ _ _ _, hb, hb.size, Nat.le_refl _, Oct.nil⟩
theorem Row.below {w0 w w1 : World} {base : Nat} {v : Value} {l : List Int} (h : Row w0 w base v l) (hb : Below w.heap.size w w1) : Row w0 w1 base v l :=
  ⟨pw_own_below h.1 hb, below_then h.2.1 h.2.1.size hb, h.2.2.1, Nat.le_trans h.2.2.2.1 hb.size, h.2.2.2.2⟩
theorem Row.alloc {w0 w : World} {base : Nat} {v : Value} {l : List Int} (h : Row w0 w base v l) (o : Obj) : Row w0 (w.alloc o) base v l := h.below (below_alloc (Below.refl _ _) o)
theorem Row.drew {w0 w : World} {base : Nat} {v : Value} {l : List Int} (h : Row w0 w base v l) : Row w0 w.drew base v l := h.below (Below.refl _ _).drew
theorem Row.drewN {w0 w : World} {base : Nat} {v : Value} {l : List Int} (h : Row w0 w base v l) (m : Nat) : Row w0 (w.drewN m) base v l := h.below (pw_below_drewN (Below.refl _ _) m)
theorem Oct.append {l m : List Int} (h : Oct l) (k : Oct m) : Oct (l ++ m) := fun x hx => by
  rcases List.mem_append.1 hx with hx | hx
  · exact h x hx
  · exact k x hx
/-- Another row of the call's own, in another block: as it was behind an append. -/
theorem Row.other {w0 w w1 : World} {base : Nat} {v v' : Value} {l : List Int} (h : Row w0 w base v l) (hg : w.grownBy w1 v'.ownBlock) (hne : ∀ k, v'.ownBlock = some k → v.ownBlock ≠ some k) (hb : Below w0.heap.size w0 w1) : Row w0 w1 base v l :=
  ⟨own_other h.1 hg (by
    rcases hk : v'.ownBlock with _ | k
    · rcases hv : v.ownBlock with _ | q
      · exact .inl rfl
      · exact .inr (by simp)
    · exact .inr (hne k hk)), hb, h.2.2.1, Nat.le_trans h.2.2.2.1 hg.size, h.2.2.2.2⟩
theorem Row.block_ge {w0 w : World} {base : Nat} {v : Value} {l : List Int} (h : Row w0 w base v l) : ∀ k, v.ownBlock = some k → base ≤ k := fun k hk => own_base h.1 k hk
theorem Row.block_lt {w0 w : World} {base : Nat} {v : Value} {l : List Int} (h : Row w0 w base v l) : ∀ k, v.ownBlock = some k → k < w.heap.size := fun k hk => own_lt h.1 k hk
theorem Row.reads {w0 w : World} {base : Nat} {v : Value} {l : List Int} (h : Row w0 w base v l) : ∃ A c, v = .slice A l.length c ∧ ReadsInt w .u8 A l.length l ∧ (A = none → c = 0) := by
  obtain ⟨⟨hl, hv⟩, _⟩ := h
  rcases hv with ⟨rfl, hn⟩ | ⟨g, cap, cur, rfl, hg, hh, hc, hm, hs, ht⟩
  · exact ⟨none, 0, by rw [hn], ⟨rfl, by omega, fun k => by omega⟩, fun _ => rfl⟩
  · refine ⟨some ⟨g, 0, none⟩, cap, rfl, ⟨rfl, by unfold maxLen at hm; omega, fun _ => ⟨_, rfl, fun j hj => ?_⟩⟩, fun k => by cases k⟩
    rw [add_plain, blk_cell hh j]
    have e : cur.toList[j]? = (nums .u8 l)[j]? := by
      rw [← ht, Nat.mul_one, List.getElem?_take_of_lt hj]
    rw [← Array.getElem?_toList, e]
    unfold nums
    rw [List.getElem?_map, List.getElem?_eq_getElem hj, List.getD_eq_getElem?_getD, List.getElem?_eq_getElem hj]
    rfl

theorem infoE : (Try.prog.info? 5).map (fun i => (i.zero, i.size, i.bytes)) = some (some (.int .u8 0), 1, 1) := by kernel_rfl

/-- append of bytes that are read onto a row of the call's own. -/
theorem append_bytes {ops : Array Oper} {rest : List Oper} {o : Oper} {a : Act} {Q : Exit → Act → World → Prop} {w0 w : World} (hgd : o.guard = none) (s x : Operand)
    (ho : o.op = .call { callee := .builtin .append, args := #[s, x], argTypes := #[27, 27] })
    (base : Nat) (v : Value) (l : List Int) (R : Row w0 w base v l) (A : Option Addr) (m : List Int) (mn c : Nat) (hA : ReadsInt w .u8 A mn m) (hn : A = none → c = 0) (hoct : Oct m) (hlen : l.length + mn ≤ 1000000)
    (hs : a.eval s = v) (hx : a.eval x = .slice A mn c)
    (h : ∀ v' w', Row w0 w' base v' (l ++ m) → w.grownBy w' v.ownBlock → wpList Try.prog ops Q rest (a.put o.dst v') w') : wpList Try.prog ops Q (o :: rest) a w := by
  obtain ⟨i, hi, hz0, hz1, hz2⟩ := info_parts infoE
  obtain ⟨hml, hmb, hrd⟩ := hA
  subst hml
  cases A with
  | none =>
    have hm0 : m = [] := by
      rcases Nat.eq_zero_or_pos m.length with k | k
      · exact List.eq_nil_of_length_eq_zero k
      · obtain ⟨_, k, _⟩ := hrd k; cases k
    subst hm0
    have hc := hn rfl
    subst hc
    refine wpList_append_own_none hgd s x 27 ho base 5 i 1 Try.underlying27 hi v l.length (nums .u8 l) hs R.1 hx ?_
    exact h v w (by rw [List.append_nil]; exact R) (grown_of_below (Below.refl _ _) _)
  | some ad =>
    refine wpList_append_own w hgd s x 27 ho base 5 i (.int .u8 0) 1 1 Try.underlying27 hi hz0 hz1 hz2 rfl (by decide) v l.length (nums .u8 l) hs R.1 ad m.length c (nums .u8 m) hx (by rw [nums_length, Nat.mul_one]) ?_ ?_ ?_ ?_ R.2.2.2.1 ?_
    · intro j u hj
      have hj' : j < m.length := by
        have := (List.getElem?_eq_some_iff.1 hj).1
        rwa [nums_length] at this
      obtain ⟨ad', e, hc⟩ := hrd (by omega)
      obtain rfl := Option.some.inj e
      rw [hc j hj', ← hj]
      unfold nums
      rw [List.getElem?_map, List.getElem?_eq_getElem hj', List.getD_eq_getElem?_getD, List.getElem?_eq_getElem hj']
      rfl
    · intro u hu
      obtain ⟨z, _, rfl⟩ := List.mem_map.1 hu
      rfl
    · unfold maxLen; omega
    · omega
    · intro v' w' hown hgr _
      refine h v' w' ⟨by rw [List.length_append, nums_append]; exact hown, ?_, R.2.2.1, Nat.le_trans R.2.2.2.1 hgr.size, R.2.2.2.2.append hoct⟩ hgr
      exact pw_below_grown R.2.1 _ R.2.1.size hgr (fun k hk => Nat.le_trans R.2.2.1 (R.block_ge k hk))

/-- Sum of a row of the call's own. -/
theorem sum_row (w0 w : World) (base : Nat) (v : Value) (l : List Int) (R : Row w0 w base v l) :
    Calls Try.prog 23 #[v] w fun e w' => e = .returned (.int .u16 (crcI l)) ∧ Below w.heap.size w w' := by
  obtain ⟨A, c, rfl, hr, _⟩ := R.reads
  exact sum_calls A c l w hr R.2.2.2.2

/-- Two bytes that the call lays. -/
theorem two_reads {W : World} {g : Nat} {a b : Int} (h : W.heap[g]? = some (.cells #[.int .u8 a, .int .u8 b] 5 (0, 0))) : ReadsInt W .u8 (some ⟨g, 0, none⟩) 2 [a, b] :=
  reads_block h [a, b] (by simp) (by
    intro k hk
    have hk : k < 2 := hk
    match k, hk with
    | 0, _ => rfl
    | 1, _ => rfl)
/-- A new row of two bytes. -/
theorem Row.two {w0 W : World} (hb : Below w0.heap.size w0 W) (a b : Int) (ho : Oct [a, b]) : Row w0 (W.alloc (.cells #[.int .u8 a, .int .u8 b] 5)) W.heap.size (.slice (some ⟨W.heap.size, 0, none⟩) 2 2) [a, b] :=
  ⟨⟨rfl, .inr ⟨W.heap.size, 2, _, rfl, Nat.le_refl _, blk_new _ _, Nat.le_refl _, by unfold maxLen; omega, rfl, rfl⟩⟩, below_alloc hb _, hb.size, by simp, ho⟩
/-- append of two bytes onto a row of the call's own, as a step of a region that draws its order. -/
theorem step_two {ops : Array Oper} {o : Oper} {a : Act} {K : Act → World → Prop} {Q : Exit → Act → World → Prop} {E : Prop} {w0 w : World} (hgd : o.guard = none) (s x : Operand)
    (ho : o.op = .call { callee := .builtin .append, args := #[s, x], argTypes := #[27, 27] })
    (base : Nat) (v : Value) (l : List Int) (R : Row w0 w base v l) (g : Nat) (p q : Int) (c : Nat) (hz : ReadsInt w .u8 (some ⟨g, 0, none⟩) 2 [p, q]) (hoct : Oct [p, q]) (hlen : l.length + 2 ≤ 1000000)
    (hs : a.eval s = v) (hx : a.eval x = .slice (some ⟨g, 0, none⟩) 2 c)
    (h : ∀ v' w', Row w0 w' base v' (l ++ [p, q]) → w.grownBy w' v.ownBlock → K (a.put o.dst v') w') : if Region.wanted o (yielded ops a.tmps) = true then Oper.wp Try.prog o a w K Q else E := by
  obtain ⟨i, hi, hz0, hz1, hz2⟩ := info_parts infoE
  refine step_append_lies w hgd s x 27 ho base 5 i (.int .u8 0) 1 1 Try.underlying27 hi hz0 hz1 hz2 rfl (by decide) v l.length (nums .u8 l) hs R.1 ⟨g, 0, none⟩ 2 c (nums .u8 [p, q]) hx rfl ?_ ?_ (by omega) ?_ ?_ R.2.2.2.1 w.heap.size rfl ?_
  · intro j u hj
    have hj' : j < 2 := (List.getElem?_eq_some_iff.1 hj).1
    obtain ⟨ad', e, hc⟩ := hz.2.2 (by omega)
    obtain rfl := Option.some.inj e
    rw [hc j hj', ← hj]
    match j, hj' with
    | 0, _ => rfl
    | 1, _ => rfl
  · intro u hu
    obtain ⟨z, _, rfl⟩ := List.mem_map.1 hu
    rfl
  · unfold maxLen; omega
  · omega
  · intro gg cap w' hown hgr _ _
    refine h _ w' ⟨by rw [List.length_append, nums_append]; exact hown, ?_, R.2.2.1, Nat.le_trans R.2.2.2.1 hgr.size, R.2.2.2.2.append hoct⟩ hgr
    exact pw_below_grown R.2.1 _ R.2.1.size hgr (fun k hk => Nat.le_trans R.2.2.1 (R.block_ge k hk))

/-- What comes back is a value of which something is known. -/
def Ret (P : Value → World → Prop) (e : Ending) (w' : World) : Prop := ∃ v', e = .returned v' ∧ P v' w'

set_option maxHeartbeats 4000000 in
set_option maxRecDepth 100000 in
theorem two_calls (w0 w : World) (base : Nat) (v : Value) (l : List Int) (n : Int) (R : Row w0 w base v l) (n0 : 0 ≤ n) (n1 : n ≤ 65535) (hl : l.length ≤ 1000) :
    Calls Try.prog 21 #[v, .int .u16 n] w (Ret fun v' w' => Row w0 w' base v' (l ++ [n / 256, n % 256]) ∧ w.grownBy w' v.ownBlock) := by
  have HR := Aside0.mk (R.alloc (.cells #[.int .u8 (n / 256), .int .u8 (n % 256)] 5))
  have HO := Aside0.mk (Oct.two (a := n / 256) (b := n % 256) (by omega) (by omega) (by omega) (by omega))
  have HL := Aside0.mk (show l.length + 2 ≤ 1000000 by omega)
  have hd : n / 256 % 256 = n / 256 := by omega
  clear R hl
  go_enter Try.func21, Try.ntmps21
  go_wp2_with (at_builtin; have q2 := two_reads (blk_new w (.cells #[.int .u8 (n / 256), .int .u8 (n % 256)] 5)); refine append_bytes rfl _ _ rfl _ _ l HR.out (some ⟨w.heap.size, 0, none⟩) [n / 256, n % 256] _ _ q2 (fun k => by cases k) HO.out HL.out rfl rfl ?_; clear q2; intro v1 w2 R1 g1; have RA := Aside0.mk R1; have GA := Aside0.mk g1; clear R1 g1)
  go_ret
  exact ⟨v1, rfl, RA.out, (World.grownBy_alloc w _ v.ownBlock).trans GA.out⟩

set_option maxHeartbeats 4000000 in
set_option maxRecDepth 100000 in
theorem four_calls (w0 w : World) (base : Nat) (v : Value) (l : List Int) (n : Int) (R : Row w0 w base v l) (n0 : 0 ≤ n) (n1 : n ≤ 4294967295) (hl : l.length ≤ 900) :
    Calls Try.prog 22 #[v, .int .u32 n] w (Ret fun v' w' => Row w0 w' base v' (l ++ [n / 16777216, n / 65536 % 256, n / 256 % 256, n % 256])) := by
  have HR := Aside0.mk R
  have HE : Aside0 (l ++ [n / 65536 / 256, n / 65536 % 256] ++ [n % 65536 / 256, n % 65536 % 256] = l ++ [n / 16777216, n / 65536 % 256, n / 256 % 256, n % 256]) := Aside0.mk (by
    rw [show n / 65536 / 256 = n / 16777216 by omega, show n % 65536 / 256 = n / 256 % 256 by omega, show n % 65536 % 256 = n % 256 by omega, List.append_assoc]; rfl)
  have ew : IntKind.u16.wrap n = n % 65536 := w16 n
  have HL := Aside0.mk hl
  clear R hl
  go_enter Try.func22, Try.ntmps22
  go_wp2_with fail
  refine (two_calls w0 _ base v l _ HR.out (by omega) (by omega) (by have := HL.out; omega)).mono ?_
  rintro e w1 ⟨v1, rfl, R1, _⟩
  have H1 := Aside0.mk R1
  clear R1
  go_wp2_with fail
  refine (two_calls w0 _ base v1 _ _ H1.out (by omega) (by omega) (by have := HL.out; simp; omega)).mono ?_
  rintro e w2 ⟨v2, rfl, R2, _⟩
  have H2 := Aside0.mk R2
  clear R2
  go_wp2
  go_ret
  exact ⟨v2, rfl, by have := H2.out; rwa [HE.out] at this⟩
end Go.Proofs.Ytamaemlhnkabcaa.Own
