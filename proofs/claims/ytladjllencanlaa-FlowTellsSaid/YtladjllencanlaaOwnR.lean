/- The flows rise; each packet is in one (layer 19). -/
import Derived.Test.YtladjllencanlaaOwnQ
namespace Go.Proofs.Ytladjllencanlaa.Own
open Go.RowKit Go.Proofs.Ytladjllencanlaa.PFlowTells Go.Proofs.YtladjllencanlaaW.PrintWords Go.Proofs.YtladjllencanlaaW.PrintLast Go.Proofs.YtladjllencanlaaW.PrintMore
set_option linter.unusedVariables false
set_option linter.unusedSimpArgs false

theorem lex_total {x y : S27} (h : ¬ lexS y x) (hne : x ≠ y) : lexS x y := by
  by_cases h2 : lexS x y
  · exact h2
  · exact absurd (tot27 x y (by rw [cf_lt]; exact decide_eq_false h2) (by rw [cf_lt]; exact decide_eq_false h)) hne
theorem lex_trans {x y z : S27} (h : lexS x y) (k : lexS y z) : lexS x z := by unfold lexS at *; omega
theorem lex_irr (x : S27) : ¬ lexS x x := by unfold lexS; omega
theorem lex_le {x y z : S27} (h : ¬ lexS y x) (k : lexS y z) : lexS x z := by unfold lexS at *; omega
/-- What is sorted, of which no two side by side are alike, rises; and has what was there. -/
theorem compact_laws (d : Array S27) (hs : ∀ i j, i < j → j < d.size → ¬ lexS d[j]! d[i]!) : ∀ m, m ≤ d.size →
    (Lib.compactUpTo d m).Pairwise lexS ∧ (∀ x, x ∈ Lib.compactUpTo d m → ∃ j, j < m ∧ d[j]! = x) ∧ (∀ j, j < m → d[j]! ∈ Lib.compactUpTo d m)
  | 0, _ => ⟨by simp [Lib.compactUpTo], fun x hx => by simp [Lib.compactUpTo] at hx, fun j hj => absurd hj (by omega)⟩
  | m + 1, hm => by
    obtain ⟨h1, h2, h3⟩ := compact_laws d hs m (by omega)
    rw [Lib.compactUpTo_succ]
    rcases hk : Lib.keeps d m with _ | _
    · simp only [Bool.false_eq_true, if_false, List.append_nil]
      refine ⟨h1, fun x hx => ?_, fun j hj => ?_⟩
      · obtain ⟨j, hj, e⟩ := h2 x hx
        exact ⟨j, by omega, e⟩
      · by_cases e : j = m
        · subst e
          have hkk : ¬ (j = 0 ∨ d[j]! ≠ d[j - 1]!) := by
            have := hk; unfold Lib.keeps at this; simpa using this
          have h0 : j ≠ 0 := fun h => hkk (.inl h)
          have he : d[j]! = d[j - 1]! := Decidable.not_not.1 (fun h => hkk (.inr h))
          rw [he]
          exact h3 (j - 1) (by omega)
        · exact h3 j (by omega)
    · simp only [if_true]
      refine ⟨?_, fun x hx => ?_, fun j hj => ?_⟩
      · rw [List.pairwise_append]
        refine ⟨h1, List.pairwise_singleton _ _, fun x hx y hy => ?_⟩
        obtain rfl := List.mem_singleton.1 hy
        obtain ⟨j, hj, rfl⟩ := h2 x hx
        have hkk : m = 0 ∨ d[m]! ≠ d[m - 1]! := by
          have := hk; unfold Lib.keeps at this; simpa using this
        have hne : d[m]! ≠ d[m - 1]! := hkk.resolve_left (by omega)
        have h4 : lexS d[m - 1]! d[m]! := lex_total (hs (m - 1) m (by omega) (by omega)) (Ne.symm hne)
        by_cases e : j = m - 1
        · subst e; exact h4
        · exact lex_le (hs j (m - 1) (by omega) (by omega)) h4
      · rcases List.mem_append.1 hx with h | h
        · obtain ⟨j, hj, e⟩ := h2 x h
          exact ⟨j, by omega, e⟩
        · obtain rfl := List.mem_singleton.1 h
          exact ⟨m, by omega, rfl⟩
      · by_cases e : j = m
        · subst e; exact List.mem_append_right _ (List.mem_singleton.2 rfl)
        · exact List.mem_append_left _ (h3 j (by omega))
theorem sorted_le (l : List S27) (i j : Nat) (hij : i < j) (hj : j < (sorted27 l).size) : ¬ lexS (sorted27 l)[j]! (sorted27 l)[i]! := by
  have hp := List.pairwise_mergeSort (le := fun x y => !(Go.Proofs.ltOf cf27) y x)
    (fun a b c h1 h2 => by
      rw [cf_lt] at *
      simp only [Bool.not_eq_true', decide_eq_false_iff_not] at *
      unfold lexS at *
      omega)
    (fun a b => by
      rw [cf_lt, cf_lt, Bool.or_eq_true]
      simp only [Bool.not_eq_true', decide_eq_false_iff_not]
      unfold lexS
      omega) l
  unfold sorted27 at hj ⊢
  have hi : i < (l.mergeSort fun x y => !(Go.Proofs.ltOf cf27) y x).length := by simp at hj ⊢; omega
  have hj' : j < (l.mergeSort fun x y => !(Go.Proofs.ltOf cf27) y x).length := by simpa using hj
  have := List.pairwise_iff_getElem.1 hp i j hi hj' hij
  rw [cf_lt] at this
  simp only [Bool.not_eq_true', decide_eq_false_iff_not] at this
  rw [getElem!_pos _ j (by simpa using hj'), getElem!_pos _ i (by simpa using hi)]
  simpa using this
theorem flows_rise (l : List S40) : (flowsOf l).Pairwise lexS :=
  (compact_laws _ (fun i j h1 h2 => sorted_le _ i j h1 h2) _ (Nat.le_refl _)).1
theorem flows_mem (l : List S40) (x : S27) : x ∈ flowsOf l ↔ x ∈ l.map flOf := by
  obtain ⟨_, h2, h3⟩ := compact_laws (sorted27 (l.map flOf)) (fun i j h1 h2 => sorted_le _ i j h1 h2) _ (Nat.le_refl _)
  have key : x ∈ sorted27 (l.map flOf) ↔ x ∈ l.map flOf := by unfold sorted27; simp
  rw [← key]
  constructor
  · intro h
    obtain ⟨j, hj, rfl⟩ := h2 x h
    rw [getElem!_pos _ j hj]
    exact Array.getElem_mem hj
  · intro h
    obtain ⟨j, hj, rfl⟩ := Array.getElem_of_mem h
    have := h3 j hj
    rwa [getElem!_pos _ j hj] at this
theorem rise_nodup {L : List S27} (h : L.Pairwise lexS) : L.Nodup := h.imp (fun k e => by subst e; exact lex_irr _ k)
theorem flows_at_lt (l : List S40) (i j : Nat) (hij : i < j) (hj : j < (flowsOf l).length) : lexS ((flowsOf l).getD i z27) ((flowsOf l).getD j z27) := by
  have := List.pairwise_iff_getElem.1 (flows_rise l) i j (by omega) hj hij
  rw [List.getD_eq_getElem?_getD, List.getD_eq_getElem?_getD, List.getElem?_eq_getElem (by omega), List.getElem?_eq_getElem hj]
  exact this
theorem flows_len (l : List S40) : (flowsOf l).length ≤ l.length := by
  unfold flowsOf
  refine Nat.le_trans (compact_le _) ?_
  rw [sorted_size, List.length_map]
  exact Nat.le_refl _
theorem bodies_len (l : List S40) (f : S27) : (bodiesOf l f).length = l.countP (fun x => decide (flOf x = f)) := by
  unfold bodiesOf
  rw [List.length_map, List.countP_eq_length_filter]
/-- As many as there are. -/
theorem sum_all (F : List S27) (hF : F.Nodup) : ∀ l : List S40, (∀ x, x ∈ l → flOf x ∈ F) → (F.map fun f => (bodiesOf l f).length).sum = l.length
  | [], _ => by
    have key : ∀ G : List S27, (G.map fun f => (bodiesOf [] f).length).sum = 0 := fun G => by
      induction G with
      | nil => rfl
      | cons g G ih => rw [List.map_cons, List.sum_cons, ih]; rfl
    exact key F
  | x :: r, h => by
    have ih := sum_all F hF r (fun y hy => h y (List.mem_cons_of_mem _ hy))
    have e : ∀ f, (bodiesOf (x :: r) f).length = (bodiesOf r f).length + (if f = flOf x then 1 else 0) := fun f => by
      rw [bodies_len, bodies_len, List.countP_cons]
      by_cases k : flOf x = f
      · subst k; simp
      · simp [k, Ne.symm k]
    have key : ∀ G : List S27, (G.map fun f => (bodiesOf (x :: r) f).length).sum = (G.map fun f => (bodiesOf r f).length).sum + G.count (flOf x) := fun G => by
      induction G with
      | nil => simp
      | cons g G ihG =>
        rw [List.map_cons, List.sum_cons, List.map_cons, List.sum_cons, ihG, e g, List.count_cons]
        by_cases k : g = flOf x
        · simp [k]; omega
        · simp [k]; omega
    rw [key F, ih, hF.count, if_pos (h x List.mem_cons_self)]
    simp
/-- So many in the first k flows. -/
def upto (l : List S40) (k : Nat) : Nat := (((flowsOf l).take k).map fun f => (bodiesOf l f).length).sum
theorem upto_succ (l : List S40) (k : Nat) (hk : k < (flowsOf l).length) : upto l (k + 1) = upto l k + (bodiesOf l ((flowsOf l).getD k z27)).length := by
  unfold upto
  rw [List.take_succ_eq_append_getElem hk, List.map_append, List.sum_append, List.getD_eq_getElem?_getD, List.getElem?_eq_getElem hk]
  simp
theorem upto_all (l : List S40) : upto l (flowsOf l).length = l.length := by
  unfold upto
  rw [List.take_length]
  exact sum_all _ (rise_nodup (flows_rise l)) l (fun x hx => (flows_mem l _).2 (List.mem_map.2 ⟨x, hx, rfl⟩))
theorem upto_le (l : List S40) (k : Nat) : upto l k ≤ l.length := by
  rw [← upto_all l]
  unfold upto
  rw [List.take_length]
  conv => rhs; rw [← List.take_append_drop k (flowsOf l)]
  rw [List.map_append, List.sum_append]
  exact Nat.le_add_right _ _
theorem bodies_pos (l : List S40) (k : Nat) (hk : k < (flowsOf l).length) : 0 < (bodiesOf l ((flowsOf l).getD k z27)).length := by
  rw [List.getD_eq_getElem?_getD, List.getElem?_eq_getElem hk, Option.getD_some]
  obtain ⟨x, hx, e⟩ := List.mem_map.1 ((flows_mem l _).1 (List.getElem_mem hk))
  rw [bodies_len, List.countP_pos_iff]
  exact ⟨x, hx, by simpa using e⟩
end Go.Proofs.Ytladjllencanlaa.Own
