/- Flows in order; slices.SortFunc at flows (layer 19). -/
import Derived.Test.YtladjllencanlaaOwnF
import Derived.Test.YtladjllencanlaaOwnH
import Derived.Shelf.SlSortCmp.NoneTotal
namespace Go.Proofs.Ytladjllencanlaa.Own
open Go.Sort Go.RowKit Go.Proofs.Ytladjllencanlaa.PFlowTells Go.Proofs.YtladjllencanlaaW.PrintWords Go.Proofs.YtladjllencanlaaW.PrintLast Go.Proofs.YtladjllencanlaaW.PrintMore
set_option linter.unusedVariables false
set_option linter.unusedSimpArgs false

def enc27 (x : S27) : List Value := [.int .i64 x.f0, .int .i64 x.f1, .int .i64 x.f2]
def cf27 (x y : S27) : Int := or3 (cmpI x.f0 y.f0) (cmpI x.f1 y.f1) (cmpI x.f2 y.f2)
/-- One flow is ahead of another one. -/
def lexS (x y : S27) : Prop := x.f0 < y.f0 ∨ (x.f0 = y.f0 ∧ (x.f1 < y.f1 ∨ (x.f1 = y.f1 ∧ x.f2 < y.f2)))
instance (x y : S27) : Decidable (lexS x y) := by unfold lexS; infer_instance
theorem cmpI_three (a b : Int) : (cmpI a b = -1 ∧ a < b) ∨ (cmpI a b = 0 ∧ a = b) ∨ (cmpI a b = 1 ∧ b < a) := by
  unfold cmpI
  split
  · exact .inl ⟨rfl, by assumption⟩
  · split
    · exact .inr (.inr ⟨rfl, by assumption⟩)
    · exact .inr (.inl ⟨rfl, by omega⟩)
theorem cf_lt (x y : S27) : ltOf cf27 x y = decide (lexS x y) := by
  unfold ltOf cf27
  rw [Bool.eq_iff_iff, decide_eq_true_eq, decide_eq_true_eq]
  unfold lexS
  rcases cmpI_three x.f0 y.f0 with ⟨e0, h0⟩ | ⟨e0, h0⟩ | ⟨e0, h0⟩ <;> rcases cmpI_three x.f1 y.f1 with ⟨e1, h1⟩ | ⟨e1, h1⟩ | ⟨e1, h1⟩ <;> rcases cmpI_three x.f2 y.f2 with ⟨e2, h2⟩ | ⟨e2, h2⟩ | ⟨e2, h2⟩ <;> rw [e0, e1, e2] <;> unfold or3 <;> simp <;> omega
theorem swo27 : SWO (ltOf cf27) where
  irrefl x := by rw [cf_lt]; simp [lexS]
  trans x y z h1 h2 := by rw [cf_lt] at *; simp only [decide_eq_true_eq] at *; unfold lexS at *; omega
  ntrans x y z h1 h2 := by rw [cf_lt] at *; simp only [decide_eq_false_iff_not] at *; unfold lexS at *; omega
theorem tot27 (x y : S27) (h1 : ltOf cf27 x y = false) (h2 : ltOf cf27 y x = false) : x = y := by
  rw [cf_lt] at h1 h2
  simp only [decide_eq_false_iff_not] at h1 h2
  unfold lexS at h1 h2
  cases x; cases y
  simp only [S27.mk.injEq]
  dsimp only at h1 h2
  omega
theorem cmpLays27 (blk off size : Nat) (w : World) : Go.Proofs.CmpLays Try.prog 23 #[] enc27 3 cf27 blk off size w :=
  fun _ _ _ _ x y => compare_grow x.f0 x.f1 x.f2 y.f0 y.f1 y.f2 _
/-- The flows, in order, each once. -/
def sorted27 (l : List S27) : Array S27 := (l.mergeSort fun x y => !(ltOf cf27) y x).toArray
theorem sort_calls (g cap : Nat) (l : List S27) (w : World) (hH : HoldsK enc27 3 w g 0 l.toArray) (hg : g < w.heap.size) (hl : l.length ≤ 1000000) :
    Calls Try.prog 22 #[.slice (some ⟨g, 0, none⟩) l.length cap, .func (.func 23) #[] #[]] w fun e w' => e = .returned (.tuple #[]) ∧ ∃ n os, w' = sortWorldK enc27 3 w g 0 n (sorted27 l) os := by
  have eg : ∀ args w, (callFunc 23 args).run Try.prog w = .ok (.enter 23 args) w := enters_of Try.func23 (by kernel_rfl) rfl
  have h := Go.Proofs.AnyQ.slices_SortFunc_total sortFlow 3 Try.isAgg27 Try.sizeOf27 enc27 (fun _ => rfl) (fun x v hv => by simp [enc27] at hv; rcases hv with rfl | rfl | rfl <;> rfl) cf27 swo27 23 #[] g 0 cap l.toArray w eg (cmpLays27 g 0 l.toArray.size w) hH hg (by simp; omega) tot27
  change Calls Try.prog 22 _ _ _ at h
  simpa [sorted27] using h
theorem sort_none (w : World) : Calls Try.prog 22 #[.slice none 0 0, .func (.func 23) #[] #[]] w fun e w' => e = .returned (.tuple #[]) ∧ w' = w :=
  Go.Proofs.AnyF.slices_SortFunc_none sortFlow none 0 _ w
/-- What the sort leaves holds flows; all else is as it was. -/
theorem sorted_block {w : World} {g n : Nat} {os : Array Obj} {d d' : Array S27} (h : FB w g d) (hs : d'.size = d.size) : FB (sortWorldK enc27 3 w g 0 n d' os) g d' ∧ Upto w (sortWorldK enc27 3 w g 0 n d' os) g := by
  obtain ⟨cur, hh, hc⟩ := h
  have hlt : g < w.heap.size := blk_lt hh
  have e : (sortWorldK enc27 3 w g 0 n d' os).heap[g]? = some (.cells (putCells id 0 (flatK enc27 3 d') cur) 27 (0, 0)) := by
    unfold sortWorldK putRowK putRow mapBlock
    rw [heap_grow_old _ _ (by simpa [Sort.ahead] using hlt)]
    simp only [Array.getElem?_modify, if_true]
    show Option.map _ (w.heap[g]?) = _
    rw [hh]
    rfl
  refine ⟨⟨_, e, fun i hi => ?_⟩, ?_⟩
  · obtain ⟨h0, h1, h2⟩ := hc i (by omega)
    have s0 : i * 3 < cur.size := (Array.getElem?_eq_some_iff.1 h0).1
    have s1 : i * 3 + 1 < cur.size := (Array.getElem?_eq_some_iff.1 h1).1
    have s2 : i * 3 + 2 < cur.size := (Array.getElem?_eq_some_iff.1 h2).1
    have key : ∀ r, r < 3 → i * 3 + r < cur.size → (putCells id 0 (flatK enc27 3 d') cur)[i * 3 + r]? = some ((enc27 d'[i]!)[r]!) := fun r hr hsz => by
      unfold putCells
      rw [Array.getElem?_mapIdx, Array.getElem?_eq_getElem hsz, Option.map_some, if_pos ⟨Nat.zero_le _, by rw [size_flatK]; omega⟩, Nat.sub_zero]
      show some ((flatK enc27 3 d')[i * 3 + r]!) = _
      rw [get_flatK _ _ _ _ (by omega), show (i * 3 + r) / 3 = i by omega, show (i * 3 + r) % 3 = r by omega]
    exact ⟨key 0 (by omega) s0, key 1 (by omega) s1, key 2 (by omega) s2⟩
  · refine ⟨rfl, rfl, rfl, ?_, fun k hk hne => ?_⟩
    · unfold sortWorldK
      rw [size_grow]
      simp [putRowK, putRow, mapBlock, Sort.ahead]
    · unfold sortWorldK putRowK putRow mapBlock
      rw [heap_grow_old _ _ (by simpa [Sort.ahead] using hk)]
      simp only [Array.getElem?_modify, if_neg (Ne.symm hne)]
      rfl
theorem FB.holds {w : World} {g : Nat} {d : Array S27} (h : FB w g d) : HoldsK enc27 3 w g 0 d := by
  intro j hj
  rw [size_flatK] at hj
  refine ⟨?_, h.free _⟩
  obtain ⟨h0, h1, h2⟩ := h.cells (j / 3) (by omega)
  show _ = some ((flatK enc27 3 d)[j]!)
  rw [get_flatK _ _ _ _ hj, Nat.zero_add]
  rcases (show j % 3 = 0 ∨ j % 3 = 1 ∨ j % 3 = 2 by omega) with k | k | k
  · rw [k, show j = j / 3 * 3 by omega]; rw [show j / 3 * 3 / 3 = j / 3 by omega]; exact h0
  · rw [k]; rw [show w.cell? ⟨g, j, none⟩ = w.cell? ⟨g, j / 3 * 3 + 1, none⟩ by congr 2; omega]; exact h1
  · rw [k]; rw [show w.cell? ⟨g, j, none⟩ = w.cell? ⟨g, j / 3 * 3 + 2, none⟩ by congr 2; omega]; exact h2
/-- Flows in a block are read. -/
theorem FB.reads {w : World} {g : Nat} {l : List S27} (h : FB w g l.toArray) (hl : l.length ≤ 1000000) : Kd.C k27 w (some ⟨g, 0, none⟩) l.length l := by
  refine ⟨rfl, by omega, fun _ => ⟨_, rfl, fun j p hj => ⟨enc27 p, rfl, k27_mk w p, fun i u hu => ?_⟩⟩⟩
  have hj' := (List.getElem?_eq_some_iff.1 hj).1
  obtain ⟨h0, h1, h2⟩ := h.cells j (by simpa using hj')
  have e : l.toArray[j]! = p := by
    rw [getElem!_pos _ j (by simpa using hj')]
    simpa using (List.getElem?_eq_some_iff.1 hj).2
  rw [e] at h0 h1 h2
  have a : ∀ r, (⟨g, 0, none⟩ : Addr).add (j * 3 + r) = ⟨g, j * 3 + r, none⟩ := fun r => by rw [add_plain]
  have hi := (List.getElem?_eq_some_iff.1 hu).1
  have hi3 : i < 3 := hi
  show w.cell? ((⟨g, 0, none⟩ : Addr).add (j * 3 + i)) = some u
  rw [a]
  match i, hi3 with
  | 0, _ => rw [Nat.add_zero, h0]; exact hu
  | 1, _ => rw [h1]; exact hu
  | 2, _ => rw [h2]; exact hu
end Go.Proofs.Ytladjllencanlaa.Own
