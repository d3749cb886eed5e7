/- flow.Bodies in plain words; known (layer 19). -/
import Derived.Test.YtladjllencanlaaOwnJ
namespace Go.Proofs.Ytladjllencanlaa.Own
open Go.RowKit Go.Proofs.Ytladjllencanlaa.PFlowTells Go.Proofs.YtladjllencanlaaW.PrintWords Go.Proofs.YtladjllencanlaaW.PrintLast Go.Proofs.YtladjllencanlaaW.PrintMore
set_option linter.unusedVariables false
set_option linter.unusedSimpArgs false

/-- The bodies of a flow. -/
def bodiesOf (l : List S40) (f : S27) : List Int := (l.filter fun x => decide (flOf x = f)).map (·.f3)
theorem wr1 (i : Nat) (h : i ≤ 1000000) : wrap64 ((i : Int) + 1) = ((i + 1 : Nat) : Int) := by rw [Go.IntWalk.wrap64_in _ (by omega)]; omega
theorem rd40 (l : List S40) (i : Nat) (hi : i < l.length) : rd_T40 l (i : Int) = l[i] := by
  unfold rd_T40
  rw [Int.toNat_natCast, List.getD_eq_getElem?_getD, List.getElem?_eq_getElem hi]
  rfl
theorem fl_test (x : S40) (f : S27) : (x.f0 == f.f0 && (x.f1 == f.f1 && (x.f2 == f.f2))) = decide (flOf x = f) := s27_eq (x := flOf x) (y := f)
theorem bodies_drop (l : List S40) (f : S27) (i : Nat) (hi : i < l.length) : bodiesOf (l.drop i) f = (if flOf l[i] = f then [(l[i]).f3] else []) ++ bodiesOf (l.drop (i + 1)) f := by
  unfold bodiesOf
  rw [List.drop_eq_getElem_cons hi, List.filter_cons]
  by_cases h : flOf l[i] = f
  · simp [h]
  · simp [h]
theorem bodies_l0 (l : List S40) (f : S27) (hl : l.length ≤ 1000) : ∀ (n i : Nat) (out : List Int), l.length - i ≤ n → i ≤ l.length → out.length ≤ i → flow_Bodies.l0 (n + 1) out l (l.length : Int) (i : Int) f.f0 f.f1 f.f2 = some (out ++ bodiesOf (l.drop i) f)
  | 0, i, out, hn, hi, ho => by
    have e : i = l.length := by omega
    subst e
    unfold flow_Bodies.l0
    rw [if_neg (by omega), List.drop_length]
    simp [bodiesOf]
  | n + 1, i, out, hn, hi, ho => by
    by_cases hlt : i < l.length
    · unfold flow_Bodies.l0
      rw [if_pos (by omega), if_pos (by omega), if_pos (by omega), rd40 l i hlt, wr1 i (by omega), bodies_drop l f i hlt]
      show (if ((l[i]).f0 == f.f0 && ((l[i]).f1 == f.f1 && ((l[i]).f2 == f.f2))) = true then _ else _) = _
      rw [fl_test]
      by_cases h : flOf l[i] = f
      · rw [if_pos (decide_eq_true h), if_pos (by omega), bodies_l0 l f hl n (i + 1) _ (by omega) (by omega) (by simp; omega), if_pos h]
        simp
      · rw [if_neg (by simp [h]), bodies_l0 l f hl n (i + 1) _ (by omega) (by omega) (by omega), if_neg h]
        simp
    · have e : i = l.length := by omega
      subst e
      unfold flow_Bodies.l0
      rw [if_neg (by omega), List.drop_length]
      simp [bodiesOf]
theorem bodies_f (l : List S40) (f : S27) (hl : l.length ≤ 1000) : flow_Bodies.f (l.length + 1) l f.f0 f.f1 f.f2 = some (bodiesOf l f) := by
  have := bodies_l0 l f hl l.length 0 [] (by omega) (by omega) (by simp)
  simpa [flow_Bodies.f] using this
theorem c32 {w : World} {A : Option Addr} {l : List Int} (h : Kd.C (Kd.int .u32) w A l.length l) : ReadsInt w .u32 A l.length l := by
  refine ⟨rfl, h.2.1, fun hn => ?_⟩
  obtain ⟨ad, e, hc⟩ := h.2.2 hn
  refine ⟨ad, e, fun j hj => ?_⟩
  obtain ⟨cs, _, hK, hc'⟩ := hc j l[j] (List.getElem?_eq_getElem hj)
  have hk : cs = [.int .u32 l[j]] := hK
  subst hk
  have := hc' 0 _ rfl
  rw [show j * (Kd.int .u32).sz + 0 = j by show j * 1 + 0 = j; omega] at this
  rw [List.getD_eq_getElem?_getD, List.getElem?_eq_getElem hj]
  exact this
/-- What Bodies answers. -/
def Bds (w : World) (r : List Int) (e : Ending) (w' : World) : Prop := ∃ A c, e = .returned (.slice A r.length c) ∧ ReadsInt w' .u32 A r.length r ∧ r.length ≤ c ∧ Below w.heap.size w w'
theorem bodies_calls (A : Option Addr) (c n : Nat) (l : List S40) (hn : l.length = n) (f : S27) (w : World) (hr : Kd.C k40 w A l.length l) (hc : l.length ≤ c) (hl : l.length ≤ 1000) :
    Calls Try.prog 17 #[.slice A n c, .agg #[.int .i64 f.f0, .int .i64 f.f1, .int .i64 f.f2]] w (Bds w (bodiesOf l f)) := by
  subst hn
  refine (flow_Bodies.calls (l.length + 1) A c l f.f0 f.f1 f.f2 _ w hr hc (bodies_f l f hl)).mono ?_
  rintro e w' ⟨v, rfl, hR, hb⟩
  obtain ⟨A', c', rfl, hle, hC⟩ := Kd.R_reads hR
  exact ⟨A', c', rfl, c32 hC, hle, hb⟩
theorem flows_at (A : Option Addr) (c n : Nat) (l : List S40) (hn : l.length = n) (w : World) (hr : Kd.C k40 w A l.length l) (hc : l.length ≤ c) (hl : l.length ≤ 1000) :
    Calls Try.prog 12 #[.slice A n c] w (Flws w l) := by
  subst hn
  exact flows_calls A c l w hr hc hl
theorem sub_at (A B : Option Addr) (c d n m : Nat) (g s : List Int) (hn : g.length = n) (hm : s.length = m) (w : World) (hg : ReadsInt w .u32 A g.length g) (hs : ReadsInt w .u32 B s.length s) (hc : g.length ≤ c) (hd : s.length ≤ d) {b : Bool} (hb : g.isSublist s = b) :
    Calls Try.prog 13 #[.slice A n c, .slice B m d] w fun e w' => e = .returned (.bool b) ∧ w' = w := by
  subst hn; subst hm; subst hb
  exact sub_calls A B c d g s w hg hs hc hd
theorem lost_at (A B : Option Addr) (c d n m : Nat) (g s : List Int) (hn : g.length = n) (hm : s.length = m) (w : World) (hg : ReadsInt w .u32 A g.length g) (hs : ReadsInt w .u32 B s.length s) (hc : g.length ≤ c) (hd : s.length ≤ d) {r : Int} (hr : lostN g s = r) :
    Calls Try.prog 14 #[.slice A n c, .slice B m d] w fun e w' => e = .returned (.int .i64 r) ∧ w' = w := by
  subst hn; subst hm; subst hr
  exact lost_calls A B c d g s w hg hs hc hd
/-- Numbers that the call lays. -/
theorem reads_new {W : World} {g : Nat} {cs : Array Value} {t : TypeId} (h : W.heap[g]? = some (.cells cs t (0, 0))) (l : List Int) (hl : l.length ≤ 1000) (hc : ∀ k, k < l.length → cs[k]? = some (.int .u32 (l.getD k 0))) : ReadsInt W .u32 (some ⟨g, 0, none⟩) l.length l :=
  ⟨rfl, by omega, fun _ => ⟨_, rfl, fun j hj => by rw [add_plain, blk_cell h j]; exact hc j hj⟩⟩
theorem reads_two {W : World} {g : Nat} {a b : Int} {t : TypeId} (h : W.heap[g]? = some (.cells #[.int .u32 a, .int .u32 b] t (0, 0))) : ReadsInt W .u32 (some ⟨g, 0, none⟩) [a, b].length [a, b] :=
  reads_new h [a, b] (by simp) (fun k hk => by
    have hk : k < 2 := hk
    match k, hk with
    | 0, _ => rfl
    | 1, _ => rfl)
theorem reads_three {W : World} {g : Nat} {a b c : Int} {t : TypeId} (h : W.heap[g]? = some (.cells #[.int .u32 a, .int .u32 b, .int .u32 c] t (0, 0))) : ReadsInt W .u32 (some ⟨g, 0, none⟩) [a, b, c].length [a, b, c] :=
  reads_new h [a, b, c] (by simp) (fun k hk => by
    have hk : k < 3 := hk
    match k, hk with
    | 0, _ => rfl
    | 1, _ => rfl
    | 2, _ => rfl)
/-- Packets that the call lays. -/
def enc40 (x : S40) : List Value := [.int .i64 x.f0, .int .i64 x.f1, .int .i64 x.f2, .int .u32 x.f3]
theorem reads_packets {W : World} {g : Nat} {cs : Array Value} {t : TypeId} (h : W.heap[g]? = some (.cells cs t (0, 0))) (l : List S40) (hl : l.length ≤ 1000) (hc : ∀ j p, l[j]? = some p → ∀ i u, (enc40 p)[i]? = some u → cs[j * 4 + i]? = some u) : Kd.C k40 W (some ⟨g, 0, none⟩) l.length l :=
  ⟨rfl, by omega, fun _ => ⟨_, rfl, fun j p hj => ⟨enc40 p, rfl, k40_mk W p, fun i u hu => by
    show W.cell? ((⟨g, 0, none⟩ : Addr).add (j * 4 + i)) = some u
    rw [add_plain, blk_cell h _]
    exact hc j p hj i u hu⟩⟩⟩
end Go.Proofs.Ytladjllencanlaa.Own
