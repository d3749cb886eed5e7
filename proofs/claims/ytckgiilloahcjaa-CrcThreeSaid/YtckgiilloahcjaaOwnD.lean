/- Rows of bytes of the call's own, and the walk of CrcNothing. -/
import Derived.Test.YtckgiilloahcjaaOwnB
import Derived.Laws.AppendOwnNone
import Derived.OwnWalk
namespace Go.Proofs.Ytckgiilloahcjaa.Own
open Go.RowKit Go.Proofs.Ytckgiilloahcjaa.Crc Go.Proofs.YtckgiilloahcjaaW.PrintWords Go.Proofs.YtckgiilloahcjaaW.PrintLast Go.Proofs.YtckgiilloahcjaaW.PrintMore
set_option linter.unusedVariables false
set_option linter.unusedSimpArgs false

/-- A slice of the call's own that holds these bytes; its block lies from base on; what lay in w0 is as it was. -/
def Row (w0 w : World) (base : Nat) (v : Value) (l : List Int) : Prop := w.ownsRow base 5 1 v l.length (nums .u8 l) ∧ Below w0.heap.size w0 w ∧ w0.heap.size ≤ base ∧ base ≤ w.heap.size ∧ Oct l
theorem Row.nil {w0 w : World} (hb : Below w0.heap.size w0 w) : Row w0 w w.heap.size (.slice none 0 0) [] := ⟨own_nil _ _ _ _, hb, hb.size, Nat.le_refl _, Oct.nil⟩
theorem Row.below {w0 w w1 : World} {base : Nat} {v : Value} {l : List Int} (h : Row w0 w base v l) (hb : Below w.heap.size w w1) : Row w0 w1 base v l :=
  ⟨pw_own_below h.1 hb, below_then h.2.1 h.2.1.size hb, h.2.2.1, Nat.le_trans h.2.2.2.1 hb.size, h.2.2.2.2⟩
theorem Row.alloc {w0 w : World} {base : Nat} {v : Value} {l : List Int} (h : Row w0 w base v l) (o : Obj) : Row w0 (w.alloc o) base v l := h.below (below_alloc (Below.refl _ _) o)
theorem Row.drew {w0 w : World} {base : Nat} {v : Value} {l : List Int} (h : Row w0 w base v l) : Row w0 w.drew base v l := h.below (Below.refl _ _).drew
theorem Row.drewN {w0 w : World} {base : Nat} {v : Value} {l : List Int} (h : Row w0 w base v l) (m : Nat) : Row w0 (w.drewN m) base v l := h.below (pw_below_drewN (Below.refl _ _) m)
theorem Oct.append {l m : List Int} (h : Oct l) (k : Oct m) : Oct (l ++ m) := fun x hx => by
  rcases List.mem_append.1 hx with hx | hx
  · exact h x hx
  · exact k x hx
/-- Another row of the call's own, in another block: as it was behind an append. -/
theorem Row.other {w0 w w1 : World} {base : Nat} {v v' : Value} {l : List Int} (h : Row w0 w base v l) (hg : w.grownBy w1 v'.ownBlock) (hne : ∀ k, v'.ownBlock = some k → v.ownBlock ≠ some k) (hb : Below w0.heap.size w0 w1) : Row w0 w1 base v l :=
  ⟨own_other h.1 hg (by
    rcases hk : v'.ownBlock with _ | k
    · rcases hv : v.ownBlock with _ | q
      · exact .inl rfl
      · exact .inr (by simp)
    · exact .inr (hne k hk)), hb, h.2.2.1, Nat.le_trans h.2.2.2.1 hg.size, h.2.2.2.2⟩
theorem Row.block_ge {w0 w : World} {base : Nat} {v : Value} {l : List Int} (h : Row w0 w base v l) : ∀ k, v.ownBlock = some k → base ≤ k := fun k hk => own_base h.1 k hk
theorem Row.block_lt {w0 w : World} {base : Nat} {v : Value} {l : List Int} (h : Row w0 w base v l) : ∀ k, v.ownBlock = some k → k < w.heap.size := fun k hk => own_lt h.1 k hk
theorem Row.reads {w0 w : World} {base : Nat} {v : Value} {l : List Int} (h : Row w0 w base v l) : ∃ A c, v = .slice A l.length c ∧ ReadsInt w .u8 A l.length l ∧ (A = none → c = 0) := by
  obtain ⟨⟨hl, hv⟩, _⟩ := h
  rcases hv with ⟨rfl, hn⟩ | ⟨g, cap, cur, rfl, hg, hh, hc, hm, hs, ht⟩
  · exact ⟨none, 0, by rw [hn], ⟨rfl, by omega, fun k => by omega⟩, fun _ => rfl⟩
  · refine ⟨some ⟨g, 0, none⟩, cap, rfl, ⟨rfl, by unfold maxLen at hm; omega, fun _ => ⟨_, rfl, fun j hj => ?_⟩⟩, fun k => by cases k⟩
    rw [add_plain, blk_cell hh j]
    have e : cur.toList[j]? = (nums .u8 l)[j]? := by
      rw [← ht, Nat.mul_one, List.getElem?_take_of_lt hj]
    rw [← Array.getElem?_toList, e]
    unfold nums
    rw [List.getElem?_map, List.getElem?_eq_getElem hj, List.getD_eq_getElem?_getD, List.getElem?_eq_getElem hj]
    rfl

theorem infoE : (Try.prog.info? 5).map (fun i => (i.zero, i.size, i.bytes)) = some (some (.int .u8 0), 1, 1) := by kernel_rfl

/-- append of bytes that are read onto a row of the call's own. -/
theorem append_bytes {ops : Array Oper} {rest : List Oper} {o : Oper} {a : Act} {Q : Exit → Act → World → Prop} {w0 w : World} (hgd : o.guard = none) (s x : Operand)
    (ho : o.op = .call { callee := .builtin .append, args := #[s, x], argTypes := #[22, 22] })
    (base : Nat) (v : Value) (l : List Int) (R : Row w0 w base v l) (A : Option Addr) (m : List Int) (mn c : Nat) (hA : ReadsInt w .u8 A mn m) (hn : A = none → c = 0) (hoct : Oct m) (hlen : l.length + mn ≤ 1000000)
    (hs : a.eval s = v) (hx : a.eval x = .slice A mn c)
    (h : ∀ v' w', Row w0 w' base v' (l ++ m) → w.grownBy w' v.ownBlock → wpList Try.prog ops Q rest (a.put o.dst v') w') : wpList Try.prog ops Q (o :: rest) a w := by
  obtain ⟨i, hi, hz0, hz1, hz2⟩ := info_parts infoE
  obtain ⟨hml, hmb, hrd⟩ := hA
  subst hml
  cases A with
  | none =>
    have hm0 : m = [] := by
      rcases Nat.eq_zero_or_pos m.length with k | k
      · exact List.eq_nil_of_length_eq_zero k
      · obtain ⟨_, k, _⟩ := hrd k; cases k
    subst hm0
    have hc := hn rfl
    subst hc
    refine wpList_append_own_none hgd s x 22 ho base 5 i 1 Try.underlying22 hi v l.length (nums .u8 l) hs R.1 hx ?_
    exact h v w (by rw [List.append_nil]; exact R) (grown_of_below (Below.refl _ _) _)
  | some ad =>
    refine wpList_append_own w hgd s x 22 ho base 5 i (.int .u8 0) 1 1 Try.underlying22 hi hz0 hz1 hz2 rfl (by decide) v l.length (nums .u8 l) hs R.1 ad m.length c (nums .u8 m) hx (by rw [nums_length, Nat.mul_one]) ?_ ?_ ?_ ?_ R.2.2.2.1 ?_
    · intro j u hj
      have hj' : j < m.length := by
        have := (List.getElem?_eq_some_iff.1 hj).1
        rwa [nums_length] at this
      obtain ⟨ad', e, hc⟩ := hrd (by omega)
      obtain rfl := Option.some.inj e
      rw [hc j hj', ← hj]
      unfold nums
      rw [List.getElem?_map, List.getElem?_eq_getElem hj', List.getD_eq_getElem?_getD, List.getElem?_eq_getElem hj']
      rfl
    · intro u hu
      obtain ⟨z, _, rfl⟩ := List.mem_map.1 hu
      rfl
    · unfold maxLen; omega
    · omega
    · intro v' w' hown hgr _
      refine h v' w' ⟨by rw [List.length_append, nums_append]; exact hown, ?_, R.2.2.1, Nat.le_trans R.2.2.2.1 hgr.size, R.2.2.2.2.append hoct⟩ hgr
      exact pw_below_grown R.2.1 _ R.2.1.size hgr (fun k hk => Nat.le_trans R.2.2.1 (R.block_ge k hk))

/-- Sum of a row of the call's own. -/
theorem sum_row (w0 w : World) (base : Nat) (v : Value) (l : List Int) (R : Row w0 w base v l) :
    Calls Try.prog 12 #[v] w fun e w' => e = .returned (.int .u16 (crcI l)) ∧ Below w.heap.size w w' := by
  obtain ⟨A, c, rfl, hr, _⟩ := R.reads
  exact sum_calls A c l w hr R.2.2.2.2

/-- Two bytes that the call lays. -/
theorem two_reads {W : World} {g : Nat} {a b : Int} (h : W.heap[g]? = some (.cells #[.int .u8 a, .int .u8 b] 5 (0, 0))) : ReadsInt W .u8 (some ⟨g, 0, none⟩) 2 [a, b] :=
  reads_block h [a, b] (by simp) (by
    intro k hk
    have hk : k < 2 := hk
    match k, hk with
    | 0, _ => rfl
    | 1, _ => rfl)
theorem word_oct {n : Int} (h0 : 0 ≤ n) (h1 : n ≤ 65535) : Oct [n / 256, n % 256] := Oct.cons (by omega) (by omega) (Oct.cons (by omega) (by omega) Oct.nil)
theorem nat_word {l : List Int} {n : Int} (h0 : 0 ≤ n) : nat (l ++ [n / 256, n % 256]) = nat l ++ [n.toNat / 256, n.toNat % 256] := by
  unfold nat
  rw [List.map_append, List.map_cons, List.map_cons, List.map_nil]
  congr 3
  · omega
  · congr 1; omega
theorem quo_eq {n : Int} (h0 : 0 ≤ n) (h1 : n ≤ 65535) : IntKind.u16.wrap (n.tdiv 256) % 256 = n / 256 := by
  rw [Int.tdiv_eq_ediv_of_nonneg h0, w16]; omega
theorem nothing_zero {l : List Int} (ho : Oct l) : crcI (l ++ [crcI l / 256, crcI l % 256]) = 0 := by
  have h := crcI_range ho
  unfold crcI at *
  rw [nat_word h.1, Int.toNat_natCast, crc_self ho.bytes]
  rfl

set_option maxHeartbeats 4000000 in
set_option maxRecDepth 100000 in
theorem crcNothing_walk (a : Option Addr) (cap : Nat) (l : List Int) (w : World) (hr : ReadsInt w .u8 a l.length l) (hm : l.length ≤ maxLen) (ho : ∀ x ∈ l, (Lit.int .u8 x).wf = true) (y : l.length * 1 ≤ 140737488351232) (hn : a = none → cap = 0) :
    Calls Try.prog 9 #[.slice a l.length cap] w fun e w' => e = .returned (.bool true) ∧ Below w.heap.size w w' := by
  have HR := Aside0.mk hr
  have HO : Aside0 (Oct l) := Aside0.mk ho
  have HN := Aside0.mk hn
  unfold maxLen at hm
  clear hr ho hn
  by_cases hl : l.length ≤ 1000
  · obtain ⟨n0, n1⟩ := crcI_range HO.out
    have E := Aside0.mk (nothing_zero HO.out)
    have EQ := Aside0.mk (quo_eq n0 n1)
    have WO : Aside0 (Oct [IntKind.u16.wrap ((crcI l).tdiv 256) % 256, crcI l % 256]) := Aside0.mk (by rw [EQ.out]; exact word_oct n0 n1)
    go_enter Try.func9, Try.ntmps9
    go_wp2_with fail
    refine (known_calls _).mono ?_
    rintro e w1 ⟨rfl, hb⟩
    have B1 := Aside0.mk hb
    clear hb
    go_wp2_with (at_builtin; refine append_bytes rfl _ _ rfl _ _ _ (Row.nil B1.out) a l _ _ (HR.out.below B1.out) HN.out HO.out (by simp; omega) rfl rfl ?_; intro v1 w2 R1 g1)
    rw [List.nil_append] at R1
    have RA := Aside0.mk R1
    clear R1 g1
    go_wp2_with fail
    refine (sum_calls a cap l _ (HR.out.below RA.out.2.1) HO.out).mono ?_
    rintro e w3 ⟨rfl, hb⟩
    have RB := Aside0.mk (RA.out.below hb)
    clear hb
    go_wp2_with (at_builtin; refine append_bytes rfl _ _ rfl _ _ _ (RB.out.alloc _) (some ⟨w3.heap.size, 0, none⟩) [IntKind.u16.wrap ((crcI l).tdiv 256) % 256, crcI l % 256] _ _ (two_reads (blk_new _ _)) (fun k => by cases k) WO.out (by omega) rfl rfl ?_; intro v2 w4 R2 g2)
    rw [EQ.out] at R2
    have RC := Aside0.mk R2
    clear R2 g2
    go_wp2_with fail
    refine (sum_row _ _ _ _ _ RC.out).mono ?_
    rintro e w5 ⟨rfl, hb⟩
    have RD := Aside0.mk (RC.out.below hb)
    clear hb
    go_wp2
    go_ret
    exact ⟨by first | rw [E.out]; rfl | (simp [E.out]), RD.out.2.1⟩
  · have hl2 : 1000 < l.length := by omega
    clear hl
    go_enter Try.func9, Try.ntmps9
    go_wp2_with fail
    refine (known_calls _).mono ?_
    rintro e w1 ⟨rfl, hb⟩
    have B1 := Aside0.mk hb
    clear hb
    go_wp2
    go_ret
    exact ⟨rfl, B1.out⟩
end Go.Proofs.Ytckgiilloahcjaa.Own
