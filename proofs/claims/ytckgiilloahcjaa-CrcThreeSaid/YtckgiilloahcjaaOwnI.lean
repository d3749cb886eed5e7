/- The walk of CrcThree. -/
import Derived.Test.YtckgiilloahcjaaOwnD
import Derived.Deep.AppendLies
import Derived.Deep.RegionLaw
import Derived.RegionTactic
namespace Go.Proofs.Ytckgiilloahcjaa.Own
open Go.RowKit Go.Proofs.Ytckgiilloahcjaa.Crc Go.Proofs.YtckgiilloahcjaaW.PrintWords Go.Proofs.YtckgiilloahcjaaW.PrintLast Go.Proofs.YtckgiilloahcjaaW.PrintMore
set_option linter.unusedVariables false
set_option linter.unusedSimpArgs false

/-- The three bytes at a place, xored. -/
def three (a b c : List Int) (k : Nat) : Int := bits .xor .u8 (bits .xor .u8 (a.getD k 0) (b.getD k 0)) (c.getD k 0)
theorem xor8_range {a b : Int} (a0 : 0 ≤ a) (a1 : a ≤ 255) (b0 : 0 ≤ b) (b1 : b ≤ 255) : 0 ≤ bits .xor .u8 a b ∧ bits .xor .u8 a b ≤ 255 := by
  rw [u8_xor a b a0 (by omega) b0 (by omega)]
  have : a.toNat ^^^ b.toNat < 256 := Nat.xor_lt_two_pow (n := 8) (by omega) (by omega)
  omega
theorem three_range {a b c : List Int} (ha : Oct a) (hb : Oct b) (hc : Oct c) (k : Nat) : 0 ≤ three a b c k ∧ three a b c k ≤ 255 := by
  have h1 := ha.getD k
  have h2 := hb.getD k
  have h3 := hc.getD k
  have h4 := xor8_range h1.1 h1.2 h2.1 h2.2
  exact xor8_range h4.1 h4.2 h3.1 h3.2
theorem nat_getD (l : List Int) (k : Nat) : (nat l).getD k 0 = (l.getD k 0).toNat := by
  unfold nat
  rw [List.getD_eq_getElem?_getD, List.getD_eq_getElem?_getD, List.getElem?_map]
  cases l[k]? <;> rfl
theorem three_nat {a b c : List Int} (ha : Oct a) (hb : Oct b) (hc : Oct c) (k : Nat) : (three a b c k).toNat = (nat a).getD k 0 ^^^ (nat b).getD k 0 ^^^ (nat c).getD k 0 := by
  have h1 := ha.getD k
  have h2 := hb.getD k
  have h3 := hc.getD k
  have h4 := xor8_range h1.1 h1.2 h2.1 h2.2
  unfold three
  rw [u8_xor _ _ h4.1 (by omega) h3.1 (by omega), u8_xor _ _ h1.1 (by omega) h2.1 (by omega), nat_getD, nat_getD, nat_getD]
  simp
theorem three_eq {a b c : List Int} (ha : Oct a) (hb : Oct b) (hc : Oct c) (n : Nat) (la : n ≤ a.length) (lb : n ≤ b.length) (lc : n ≤ c.length) :
    bits .xor .u16 (bits .xor .u16 (crcI (a.take n)) (crcI (b.take n))) (crcI (c.take n)) = crcI ((List.range n).map (three a b c)) := by
  have r1 := crcI_range (ha.take n)
  have r2 := crcI_range (hb.take n)
  have r3 := crcI_range (hc.take n)
  have e12 := u16_xor (crcI (a.take n)) (crcI (b.take n)) r1.1 (by omega) r2.1 (by omega)
  have l12 : (crcI (a.take n)).toNat ^^^ (crcI (b.take n)).toNat < 65536 := xor_lt (by omega) (by omega)
  rw [e12, u16_xor _ _ (by omega) (by omega) r3.1 (by omega), Int.toNat_natCast]
  unfold crcI crc
  rw [Int.toNat_natCast, Int.toNat_natCast, Int.toNat_natCast]
  have len : ∀ l : List Int, n ≤ l.length → (nat (l.take n)).length = n := fun l h => by unfold nat; rw [List.length_map, List.length_take]; omega
  rw [run_three (by omega) (by omega) (by omega) n (ha.take n).bytes (hb.take n).bytes (hc.take n).bytes (len a la) (len b lb) (len c lc)]
  have e : (65535 ^^^ 65535 ^^^ 65535 : Nat) = 65535 := by decide
  rw [e]
  congr 2
  unfold nat
  rw [List.map_map]
  apply List.map_congr_left
  intro k hk
  have hk := List.mem_range.1 hk
  have t := three_nat ha hb hc k
  show _ = (three a b c k).toNat
  rw [t]
  have g : ∀ l : List Int, n ≤ l.length → (List.map Int.toNat (l.take n)).getD k 0 = (nat l).getD k 0 := fun l _ => by
    unfold nat
    rw [List.getD_eq_getElem?_getD, List.getD_eq_getElem?_getD, List.getElem?_map, List.getElem?_map, List.getElem?_take_of_lt hk]
  rw [g a la, g b lb, g c lc]
theorem oct_three {a b c : List Int} (ha : Oct a) (hb : Oct b) (hc : Oct c) (k : Nat) : Oct [three a b c k] := Oct.cons (three_range ha hb hc k).1 (three_range ha hb hc k).2 Oct.nil
theorem one_row {W : World} {g : Nat} {a : Int} (h : W.heap[g]? = some (.cells #[.int .u8 a] 5 (0, 0))) : ReadsInt W .u8 (some ⟨g, 0, none⟩) 1 [a] := one_reads h
theorem reads_take {W : World} {A : Option Addr} {l : List Int} (h : ReadsInt W .u8 A l.length l) (n : Nat) (hn : n ≤ l.length) : ReadsInt W .u8 A (l.take n).length (l.take n) := by
  refine ⟨rfl, by rw [List.length_take]; have := h.2.1; omega, fun hp => ?_⟩
  rw [List.length_take] at hp
  obtain ⟨ad, e, hc⟩ := h.2.2 (by omega)
  refine ⟨ad, e, fun j hj => ?_⟩
  rw [List.length_take] at hj
  rw [hc j (by omega), List.getD_eq_getElem?_getD, List.getD_eq_getElem?_getD, List.getElem?_take_of_lt (by omega)]
theorem sum_take (A : Option Addr) (cap n : Nat) (l : List Int) (W : World) (h : ReadsInt W .u8 A l.length l) (ho : Oct l) (hn : n ≤ l.length) :
    Calls Try.prog 12 #[.slice A n cap] W fun e w' => e = .returned (.int .u16 (crcI (l.take n))) ∧ Below W.heap.size W w' := by
  have := sum_calls A cap (l.take n) W (reads_take h n hn) (ho.take n)
  rwa [List.length_take, Nat.min_eq_left hn] at this
/-- append of one byte onto a row of the call's own, as a step of a region that draws its order. -/
theorem step_byte {ops : Array Oper} {o : Oper} {a : Act} {K : Act → World → Prop} {Q : Exit → Act → World → Prop} {E : Prop} {w0 w : World} (hgd : o.guard = none) (s x : Operand)
    (ho : o.op = .call { callee := .builtin .append, args := #[s, x], argTypes := #[22, 22] })
    (base : Nat) (v : Value) (l : List Int) (R : Row w0 w base v l) (ad : Addr) (z : Int) (c : Nat) (hz : w.cell? (ad.add 0) = some (.int .u8 z)) (hoct : Oct [z]) (hlen : l.length + 1 ≤ 1000000)
    (hs : a.eval s = v) (hx : a.eval x = .slice (some ad) 1 c)
    (h : ∀ v' w', Row w0 w' base v' (l ++ [z]) → K (a.put o.dst v') w') : if Region.wanted o (yielded ops a.tmps) = true then Oper.wp Try.prog o a w K Q else E := by
  obtain ⟨i, hi, hz0, hz1, hz2⟩ := info_parts infoE
  refine step_append_lies w hgd s x 22 ho base 5 i (.int .u8 0) 1 1 Try.underlying22 hi hz0 hz1 hz2 rfl (by decide) v l.length (nums .u8 l) hs R.1 ad 1 c [.int .u8 z] hx rfl ?_ ?_ (by omega) ?_ ?_ R.2.2.2.1 w.heap.size rfl ?_
  · intro j u hj
    have hj' : j < 1 := (List.getElem?_eq_some_iff.1 hj).1
    obtain rfl : j = 0 := by omega
    rw [hz, ← hj]; rfl
  · intro u hu
    obtain rfl := List.mem_singleton.1 hu
    rfl
  · unfold maxLen; omega
  · omega
  · intro g cap w' hown hgr _ _
    refine h _ w' ⟨by rw [List.length_append, nums_append]; exact hown, ?_, R.2.2.1, Nat.le_trans R.2.2.2.1 hgr.size, R.2.2.2.2.append hoct⟩
    exact pw_below_grown R.2.1 _ R.2.1.size hgr (fun k hk => Nat.le_trans R.2.2.1 (R.block_ge k hk))
theorem new_byte (W : World) (z : Int) : (W.alloc (.cells #[.int .u8 z] 5)).cell? ((⟨W.heap.size, 0, none⟩ : Addr).add 0) = some (.int .u8 z) := by
  rw [add_plain]; exact (blk_cell (blk_new W _) 0).trans rfl
theorem Row.bel {w0 w : World} {base : Nat} {v : Value} {l : List Int} (h : Row w0 w base v l) : Below w0.heap.size w0 w := h.2.1
theorem range_snoc (f : Nat → Int) (k : Nat) : (List.range (k + 1)).map f = (List.range k).map f ++ [f k] := by rw [List.range_succ, List.map_append]; rfl
theorem read_at {w wr : World} {A : Option Addr} {l : List Int} (h : ReadsInt w .u8 A l.length l) (hb : Below w.heap.size w wr) (k : Nat) (hk : k < l.length) : ∃ ad, A = some ad ∧ wr.cell? (ad.add k) = some (.int .u8 (l.getD k 0)) := by
  obtain ⟨ad, e, hc⟩ := h.2.2 (by omega)
  exact ⟨ad, e, pw_cell_below hb (hc k hk)⟩

theorem sum_empty (A : Option Addr) (cap : Nat) (W : World) :
    Calls Try.prog 12 #[.slice A 0 cap] W fun e w' => e = .returned (.int .u16 65535) ∧ Below W.heap.size W w' :=
  sum_calls A cap [] W ⟨rfl, by simp, fun h => absurd h (Nat.lt_irrefl _)⟩ Oct.nil

end Go.Proofs.Ytckgiilloahcjaa.Own
