/- The shelf's slices.SortFunc laid at this seat's program; flow.compare orders (layer 19). -/
import Derived.Test.YtladjllencanlaaOwnE
import Derived.Shelf.SlGeneric
import Derived.Shelf.SlLaysF0
import Derived.Sort.Grow
import Derived.Deep.RegionHeld3
namespace Go.Proofs.Ytladjllencanlaa.Own
open Go.RowKit Go.Proofs.Ytladjllencanlaa.PFlowTells Go.Proofs.YtladjllencanlaaW.PrintWords Go.Proofs.YtladjllencanlaaW.PrintLast Go.Proofs.YtladjllencanlaaW.PrintMore
set_option linter.unusedVariables false
set_option linter.unusedSimpArgs false

/-- The numbers of the shelf's closure, at this program. -/
def sortFlow_ren : Go.Shelf.Ren := ⟨fun | 6 => 22 | 15 => 28 | 14 => 27 | 28 => 39 | 29 => 40 | 20 => 31 | 21 => 32 | 22 => 33 | 23 => 34 | 24 => 35 | 25 => 36 | 26 => 37 | 27 => 38 | 46 => 42 | 47 => 43 | 48 => 44 | 49 => 45 | 50 => 46 | 57 => 47 | n => n, fun | 22 => 24 | 24 => 27 | 25 => 44 | 3 => 3 | 39 => 49 | 0 => 0 | 53 => 31 | 55 => 62 | 4 => 4 | 46 => 54 | 45 => 53 | 50 => 58 | 5 => 5 | 9 => 9 | 66 => 65 | 70 => 69 | 76 => 71 | 77 => 72 | n => n, fun | n => n⟩
theorem sortFlow : Go.Proofs.SlLaysF0.n6 Try.prog sortFlow_ren :=
  { mixed := by kernel_rfl,
    f6 := ⟨Try.f22.name, by decide, Try.func22.trans (congrArg some (by kernel_rfl))⟩,
    f14 := ⟨Try.f27.name, by decide, Try.func27.trans (congrArg some (by kernel_rfl))⟩,
    f15 := Try.func28.trans (congrArg some (by kernel_rfl)),
    f20 := ⟨Try.f31.name, by decide, Try.func31.trans (congrArg some (by kernel_rfl))⟩,
    f21 := ⟨Try.f32.name, by decide, Try.func32.trans (congrArg some (by kernel_rfl))⟩,
    f22 := ⟨Try.f33.name, by decide, Try.func33.trans (congrArg some (by kernel_rfl))⟩,
    f23 := ⟨Try.f34.name, by decide, Try.func34.trans (congrArg some (by kernel_rfl))⟩,
    f24 := ⟨Try.f35.name, by decide, Try.func35.trans (congrArg some (by kernel_rfl))⟩,
    f25 := ⟨Try.f36.name, by decide, Try.func36.trans (congrArg some (by kernel_rfl))⟩,
    f26 := ⟨Try.f37.name, by decide, Try.func37.trans (congrArg some (by kernel_rfl))⟩,
    f27 := ⟨Try.f38.name, by decide, Try.func38.trans (congrArg some (by kernel_rfl))⟩,
    f28 := Try.func39.trans (congrArg some (by kernel_rfl)),
    f29 := Try.func40.trans (congrArg some (by kernel_rfl)),
    f46 := ⟨Try.f42.name, by decide, Try.func42.trans (congrArg some (by kernel_rfl))⟩,
    f47 := Try.func43.trans (congrArg some (by kernel_rfl)),
    f48 := Try.func44.trans (congrArg some (by kernel_rfl)),
    f49 := ⟨Try.f45.name, by decide, Try.func45.trans (congrArg some (by kernel_rfl))⟩,
    f50 := ⟨Try.f46.name, by decide, Try.func46.trans (congrArg some (by kernel_rfl))⟩,
    f57 := ⟨Try.f47.name, by decide, Try.func47.trans (congrArg some (by kernel_rfl))⟩,
    t0 := Try.underlying0,
    a0 := Try.isAgg0,
    z0 := Try.sizeOf0,
    v0 := Try.zeroValue0,
    t3 := Try.underlying3,
    a3 := Try.isAgg3,
    z3 := Try.sizeOf3,
    v3 := Try.zeroValue3,
    t4 := Try.underlying4,
    a4 := Try.isAgg4,
    z4 := Try.sizeOf4,
    v4 := Try.zeroValue4,
    t5 := Try.underlying5,
    a5 := Try.isAgg5,
    z5 := Try.sizeOf5,
    v5 := Try.zeroValue5,
    t9 := Try.underlying9,
    a9 := Try.isAgg9,
    z9 := Try.sizeOf9,
    v9 := Try.zeroValue9,
    t22 := Try.underlying24,
    a22 := Try.isAgg24,
    z22 := Try.sizeOf24,
    v22 := Try.zeroValue24,
    t25 := Try.underlying44,
    a25 := Try.isAgg44,
    z25 := Try.sizeOf44,
    v25 := Try.zeroValue44,
    t39 := Try.underlying49,
    a39 := Try.isAgg49,
    z39 := Try.sizeOf49,
    v39 := Try.zeroValue49,
    t45 := Try.underlying53,
    a45 := Try.isAgg53,
    z45 := Try.sizeOf53,
    v45 := Try.zeroValue53,
    t46 := Try.underlying54,
    a46 := Try.isAgg54,
    z46 := Try.sizeOf54,
    v46 := Try.zeroValue54,
    t50 := Try.underlying58,
    a50 := Try.isAgg58,
    z50 := Try.sizeOf58,
    v50 := Try.zeroValue58,
    t53 := Try.underlying31,
    a53 := Try.isAgg31,
    z53 := Try.sizeOf31,
    v53 := Try.zeroValue31,
    t55 := Try.underlying62,
    a55 := Try.isAgg62,
    z55 := Try.sizeOf62,
    v55 := Try.zeroValue62,
    t66 := Try.underlying65,
    a66 := Try.isAgg65,
    z66 := Try.sizeOf65,
    v66 := Try.zeroValue65,
    t70 := Try.underlying69,
    a70 := Try.isAgg69,
    z70 := Try.sizeOf69,
    v70 := Try.zeroValue69,
    t76 := Try.underlying71,
    a76 := Try.isAgg71,
    z76 := Try.sizeOf71,
    v76 := Try.zeroValue71,
    t77 := Try.underlying72,
    a77 := Try.isAgg72,
    z77 := Try.sizeOf72,
    v77 := Try.zeroValue72 }

/-- Draws and new blocks: nothing else. -/
def Grows (w w' : World) : Prop := ∃ q os, w' = Go.Sort.grow (w.drewN q) os
theorem Grows.refl (w : World) : Grows w w := ⟨0, #[], by rw [Go.Sort.grow_empty]; rfl⟩
theorem Grows.drewN {w w' : World} (h : Grows w w') (n : Nat) : Grows w (w'.drewN n) := by
  obtain ⟨q, os, rfl⟩ := h
  exact ⟨q + n, os, by unfold Go.Sort.grow World.drewN; simp [Nat.add_assoc]⟩
theorem Grows.drew {w w' : World} (h : Grows w w') : Grows w w'.drew := h.drewN 1
theorem Grows.alloc {w w' : World} (h : Grows w w') (o : Obj) : Grows w (w'.alloc o) := by
  obtain ⟨q, os, rfl⟩ := h
  exact ⟨q, os ++ #[o], by rw [Go.Sort.alloc_eq_grow, Go.Sort.grow_grow]⟩
theorem Grows.drawn {w w' w'' : World} (h : Grows w w') (k : Drawn0 w' w'') : Grows w w'' := by
  obtain ⟨n, rfl⟩ := k
  exact h.drewN n
theorem Grows.below {w w' : World} (h : Grows w w') : Below w.heap.size w w' := by
  obtain ⟨q, os, rfl⟩ := h
  exact ⟨rfl, rfl, rfl, by rw [Go.Sort.size_grow]; exact Nat.le_add_right _ _, fun k hk => Go.Sort.heap_grow_old _ os hk⟩
/-- Comparing whole numbers; three of them. -/
def cmpI (a b : Int) : Int := if a < b then -1 else if b < a then 1 else 0
def or3 (a b c : Int) : Int := if a = 0 then (if b = 0 then c else b) else a
abbrev Fl := Int × Int × Int
def cmp3 (x y : Fl) : Int := or3 (cmpI x.1 y.1) (cmpI x.2.1 y.2.1) (cmpI x.2.2 y.2.2)
def encF (x : Fl) : List Value := [.int .i64 x.1, .int .i64 x.2.1, .int .i64 x.2.2]
theorem cmpI_f (a b : Int) : cmp_Compare_int.f a b = some (cmpI a b) := by
  have hn : ∀ x : Int, cmp_isNaN_int.f x = some false := fun x => by unfold cmp_isNaN_int.f; simp
  unfold cmp_Compare_int.f cmpI
  rw [hn, hn]
  simp only [Option.bind_some, Bool.false_eq_true, if_false, gt_iff_lt]
  split
  · rfl
  · split <;> rfl
theorem or3_f (a b c : Int) : cmp_Or_int.f 5 [a, b, c] = some (or3 a b c) := by
  unfold or3
  by_cases ha : a = 0
  · by_cases hb : b = 0
    · by_cases hc : c = 0
      · subst ha hb hc; decide +kernel
      · subst ha hb; simp [cmp_Or_int.f, cmp_Or_int.l0, rd, wrap64, hc]
    · subst ha; simp [cmp_Or_int.f, cmp_Or_int.l0, rd, wrap64, hb]
  · simp [cmp_Or_int.f, cmp_Or_int.l0, rd, ha]
theorem kdc64 {w : World} {A : Option Addr} {n : Nat} {l : List Int} (h : ReadsInt w .i64 A n l) : (Kd.int .i64).C w A n l :=
  ⟨h.1, h.2.1, fun hn => by
    obtain ⟨ad, e, hc⟩ := h.2.2 hn
    refine ⟨ad, e, fun j p hj => ⟨[.int .i64 p], rfl, rfl, fun i u hu => ?_⟩⟩
    have hj' := (List.getElem?_eq_some_iff.1 hj).1
    have hi := (List.getElem?_eq_some_iff.1 hu).1
    match i, hi with
    | 0, _ =>
      have := hc j (by rw [← h.1]; exact hj')
      rw [show j * (Kd.int .i64).sz + 0 = j by show j * 1 + 0 = j; omega, this, ← hu, List.getD_eq_getElem?_getD, hj]
      rfl⟩
theorem three_reads {W : World} {g : Nat} {a b c : Int} {t : TypeId} (h : W.heap[g]? = some (.cells #[.int .i64 a, .int .i64 b, .int .i64 c] t (0, 0))) : ReadsInt W .i64 (some ⟨g, 0, none⟩) 3 [a, b, c] :=
  ⟨rfl, by omega, fun _ => ⟨_, rfl, fun j hj => by
    rw [add_plain, blk_cell h j]
    match j, hj with
    | 0, _ => rfl
    | 1, _ => rfl
    | 2, _ => rfl⟩⟩
theorem six_held {W : World} {g q : Nat} {a0 a1 a2 b0 b1 b2 : Int} {t u : TypeId} (h : W.heap[g]? = some (.cells #[.int .i64 a0, .int .i64 a1, .int .i64 a2] t (0, 0))) (k : W.heap[q]? = some (.cells #[.int .i64 b0, .int .i64 b1, .int .i64 b2] u (0, 0))) :
    W.cell? ⟨g, 0, none⟩ = some (.int .i64 a0) ∧ W.cell? ⟨g, 1, none⟩ = some (.int .i64 a1) ∧ W.cell? ⟨g, 2, none⟩ = some (.int .i64 a2) ∧ W.cell? ⟨q, 0, none⟩ = some (.int .i64 b0) ∧ W.cell? ⟨q, 1, none⟩ = some (.int .i64 b1) ∧ W.cell? ⟨q, 2, none⟩ = some (.int .i64 b2) :=
  ⟨(blk_cell h 0).trans rfl, (blk_cell h 1).trans rfl, (blk_cell h 2).trans rfl, (blk_cell k 0).trans rfl, (blk_cell k 1).trans rfl, (blk_cell k 2).trans rfl⟩
set_option maxHeartbeats 4000000 in
set_option maxRecDepth 100000 in
theorem compare_grow (a0 a1 a2 b0 b1 b2 : Int) (w : World) :
    Calls Try.prog 23 #[.agg #[.int .i64 a0, .int .i64 a1, .int .i64 a2], .agg #[.int .i64 b0, .int .i64 b1, .int .i64 b2]] w fun e w' => e = .returned (.int .i64 (or3 (cmpI a0 b0) (cmpI a1 b1) (cmpI a2 b2))) ∧ Grows w w' := by
  have C0 := Aside0.mk (fun w => cmp_Compare_int.calls a0 b0 _ w (cmpI_f a0 b0))
  have C1 := Aside0.mk (fun w => cmp_Compare_int.calls a1 b1 _ w (cmpI_f a1 b1))
  have C2 := Aside0.mk (fun w => cmp_Compare_int.calls a2 b2 _ w (cmpI_f a2 b2))
  generalize cmpI a0 b0 = r0 at C0 ⊢
  generalize cmpI a1 b1 = r1 at C1 ⊢
  generalize cmpI a2 b2 = r2 at C2 ⊢
  have CO := Aside0.mk (fun (A : Option Addr) (w : World) (h : ReadsInt w .i64 A 3 [r0, r1, r2]) => cmp_Or_int.calls 5 A 3 [r0, r1, r2] _ w (kdc64 h) (Nat.le_refl 3) (or3_f r0 r1 r2))
  generalize or3 r0 r1 r2 = r at CO ⊢
  have X0 := Aside0.mk (show ((w.alloc (.cells #[.int .i64 a0, .int .i64 a1, .int .i64 a2] 27)).alloc (.cells #[.int .i64 b0, .int .i64 b1, .int .i64 b2] 27)).heap[w.heap.size]? = some (.cells #[.int .i64 a0, .int .i64 a1, .int .i64 a2] 27 (0, 0)) from blk_below (blk_new _ _) (below_alloc (Below.refl _ _) _))
  have Y0 := Aside0.mk (show ((w.alloc (.cells #[.int .i64 a0, .int .i64 a1, .int .i64 a2] 27)).alloc (.cells #[.int .i64 b0, .int .i64 b1, .int .i64 b2] 27)).heap[w.heap.size + 1]? = some (.cells #[.int .i64 b0, .int .i64 b1, .int .i64 b2] 27 (0, 0)) by
    have := blk_new (w.alloc (.cells #[.int .i64 a0, .int .i64 a1, .int .i64 a2] 27)) (.cells #[.int .i64 b0, .int .i64 b1, .int .i64 b2] 27)
    rwa [show (w.alloc (.cells #[.int .i64 a0, .int .i64 a1, .int .i64 a2] 27)).heap.size = w.heap.size + 1 by simp] at this)
  have G0 := Aside0.mk (((Grows.refl w).alloc (.cells #[.int .i64 a0, .int .i64 a1, .int .i64 a2] 27)).alloc (.cells #[.int .i64 b0, .int .i64 b1, .int .i64 b2] 27))
  go_enter Try.func23, Try.ntmps23
  go_wp2_with fail
  generalize (w.alloc (.cells #[.int .i64 a0, .int .i64 a1, .int .i64 a2] 27)).alloc (.cells #[.int .i64 b0, .int .i64 b1, .int .i64 b2] 27) = w0 at X0 Y0 G0 ⊢
  refine wp_region_held_drew (S := fun W => W.cell? ⟨w.heap.size, 0, none⟩ = some (.int .i64 a0) ∧ W.cell? ⟨w.heap.size, 1, none⟩ = some (.int .i64 a1) ∧ W.cell? ⟨w.heap.size, 2, none⟩ = some (.int .i64 a2) ∧ W.cell? ⟨w.heap.size + 1, 0, none⟩ = some (.int .i64 b0) ∧ W.cell? ⟨w.heap.size + 1, 1, none⟩ = some (.int .i64 b1) ∧ W.cell? ⟨w.heap.size + 1, 2, none⟩ = some (.int .i64 b2)) (by kernel_rfl) ?_ (fun hHeld => ?_)
  · exact six_held (blk_drew X0.out) (blk_drew Y0.out)
  refine wpAnyH_take (i := 0) (v := ?v0) (rfl) (by kernel_rfl) (by kernel_rfl) (by kernel_rfl) (fun _ _ _ h => h) ?y0 (by assumption) ?r0
  case y0 => first | (refine Or.inr ⟨?_, ?_⟩; rfl; rfl) | (refine Or.inl ⟨?_, ?_⟩; rfl; intro w hSw; (try dsimp only at hSw); go_simp; try with_reducible rfl)
  simp only [Act.put, List.setIfInBounds_toArray, List.set_cons_zero, List.set_cons_succ, List.getElem_toArray, List.getElem_cons_succ, List.getElem_cons_zero]
  refine wpAnyH_take (i := 1) (v := ?v1) (rfl) (by kernel_rfl) (by kernel_rfl) (by kernel_rfl) (fun _ _ _ h => h) ?y1 (by assumption) ?r1
  case y1 => first | (refine Or.inr ⟨?_, ?_⟩; rfl; rfl) | (refine Or.inl ⟨?_, ?_⟩; rfl; intro w hSw; (try dsimp only at hSw); go_simp; try with_reducible rfl)
  simp only [Act.put, List.setIfInBounds_toArray, List.set_cons_zero, List.set_cons_succ, List.getElem_toArray, List.getElem_cons_succ, List.getElem_cons_zero]
  refine wpAnyH_take (i := 2) (v := ?v2) (rfl) (by kernel_rfl) (by kernel_rfl) (by kernel_rfl) (fun _ _ _ h => h) ?y2 (by assumption) ?r2
  case y2 => first | (refine Or.inr ⟨?_, ?_⟩; rfl; rfl) | (refine Or.inl ⟨?_, ?_⟩; rfl; intro w hSw; (try dsimp only at hSw); go_simp; try with_reducible rfl)
  simp only [Act.put, List.setIfInBounds_toArray, List.set_cons_zero, List.set_cons_succ, List.getElem_toArray, List.getElem_cons_succ, List.getElem_cons_zero]
  refine wpAnyH_take (i := 3) (v := ?v3) (rfl) (by kernel_rfl) (by kernel_rfl) (by kernel_rfl) (fun _ _ _ h => h) ?y3 (by assumption) ?r3
  case y3 => first | (refine Or.inr ⟨?_, ?_⟩; rfl; rfl) | (refine Or.inl ⟨?_, ?_⟩; rfl; intro w hSw; (try dsimp only at hSw); go_simp; try with_reducible rfl)
  simp only [Act.put, List.setIfInBounds_toArray, List.set_cons_zero, List.set_cons_succ, List.getElem_toArray, List.getElem_cons_succ, List.getElem_cons_zero]
  refine wpAnyH_take (i := 5) (v := ?v5) (rfl) (by kernel_rfl) (by kernel_rfl) (by kernel_rfl) (fun _ _ _ h => h) ?y5 (by assumption) ?r5
  case y5 => first | (refine Or.inr ⟨?_, ?_⟩; rfl; rfl) | (refine Or.inl ⟨?_, ?_⟩; rfl; intro w hSw; (try dsimp only at hSw); go_simp; try with_reducible rfl)
  simp only [Act.put, List.setIfInBounds_toArray, List.set_cons_zero, List.set_cons_succ, List.getElem_toArray, List.getElem_cons_succ, List.getElem_cons_zero]
  refine wpAnyH_take (i := 6) (v := ?v6) (rfl) (by kernel_rfl) (by kernel_rfl) (by kernel_rfl) (fun _ _ _ h => h) ?y6 (by assumption) ?r6
  case y6 => first | (refine Or.inr ⟨?_, ?_⟩; rfl; rfl) | (refine Or.inl ⟨?_, ?_⟩; rfl; intro w hSw; (try dsimp only at hSw); go_simp; try with_reducible rfl)
  simp only [Act.put, List.setIfInBounds_toArray, List.set_cons_zero, List.set_cons_succ, List.getElem_toArray, List.getElem_cons_succ, List.getElem_cons_zero]
  refine wpAnyH_take (i := 7) (v := ?v7) (rfl) (by kernel_rfl) (by kernel_rfl) (by kernel_rfl) (fun _ _ _ h => h) ?y7 (by assumption) ?r7
  case y7 => first | (refine Or.inr ⟨?_, ?_⟩; rfl; rfl) | (refine Or.inl ⟨?_, ?_⟩; rfl; intro w hSw; (try dsimp only at hSw); go_simp; try with_reducible rfl)
  simp only [Act.put, List.setIfInBounds_toArray, List.set_cons_zero, List.set_cons_succ, List.getElem_toArray, List.getElem_cons_succ, List.getElem_cons_zero]
  refine wpAnyH_take (i := 8) (v := ?v8) (rfl) (by kernel_rfl) (by kernel_rfl) (by kernel_rfl) (fun _ _ _ h => h) ?y8 (by assumption) ?r8
  case y8 => first | (refine Or.inr ⟨?_, ?_⟩; rfl; rfl) | (refine Or.inl ⟨?_, ?_⟩; rfl; intro w hSw; (try dsimp only at hSw); go_simp; try with_reducible rfl)
  simp only [Act.put, List.setIfInBounds_toArray, List.set_cons_zero, List.set_cons_succ, List.getElem_toArray, List.getElem_cons_succ, List.getElem_cons_zero]
  refine wpAnyH_take (i := 10) (v := ?v10) (rfl) (by kernel_rfl) (by kernel_rfl) (by kernel_rfl) (fun _ _ _ h => h) ?y10 (by assumption) ?r10
  case y10 => first | (refine Or.inr ⟨?_, ?_⟩; rfl; rfl) | (refine Or.inl ⟨?_, ?_⟩; rfl; intro w hSw; (try dsimp only at hSw); go_simp; try with_reducible rfl)
  simp only [Act.put, List.setIfInBounds_toArray, List.set_cons_zero, List.set_cons_succ, List.getElem_toArray, List.getElem_cons_succ, List.getElem_cons_zero]
  refine wpAnyH_take (i := 11) (v := ?v11) (rfl) (by kernel_rfl) (by kernel_rfl) (by kernel_rfl) (fun _ _ _ h => h) ?y11 (by assumption) ?r11
  case y11 => first | (refine Or.inr ⟨?_, ?_⟩; rfl; rfl) | (refine Or.inl ⟨?_, ?_⟩; rfl; intro w hSw; (try dsimp only at hSw); go_simp; try with_reducible rfl)
  simp only [Act.put, List.setIfInBounds_toArray, List.set_cons_zero, List.set_cons_succ, List.getElem_toArray, List.getElem_cons_succ, List.getElem_cons_zero]
  refine wpAnyH_take (i := 12) (v := ?v12) (rfl) (by kernel_rfl) (by kernel_rfl) (by kernel_rfl) (fun _ _ _ h => h) ?y12 (by assumption) ?r12
  case y12 => first | (refine Or.inr ⟨?_, ?_⟩; rfl; rfl) | (refine Or.inl ⟨?_, ?_⟩; rfl; intro w hSw; (try dsimp only at hSw); go_simp; try with_reducible rfl)
  simp only [Act.put, List.setIfInBounds_toArray, List.set_cons_zero, List.set_cons_succ, List.getElem_toArray, List.getElem_cons_succ, List.getElem_cons_zero]
  refine wpAnyH_take (i := 13) (v := ?v13) (rfl) (by kernel_rfl) (by kernel_rfl) (by kernel_rfl) (fun _ _ _ h => h) ?y13 (by assumption) ?r13
  case y13 => first | (refine Or.inr ⟨?_, ?_⟩; rfl; rfl) | (refine Or.inl ⟨?_, ?_⟩; rfl; intro w hSw; (try dsimp only at hSw); go_simp; try with_reducible rfl)
  simp only [Act.put, List.setIfInBounds_toArray, List.set_cons_zero, List.set_cons_succ, List.getElem_toArray, List.getElem_cons_succ, List.getElem_cons_zero]
  refine wpAnyH_ready (rs := [4]) (by kernel_rfl) (by simp) ?_
  refine AllReadyH.cons rfl (fun K hK => ?_) AllReadyH.nil
  go_simp
  refine (C0.out _).mono ?_
  rintro e w1 ⟨rfl, hd⟩
  have X1 := Aside0.mk (blk_below (blk_drew X0.out) hd.below)
  have Y1 := Aside0.mk (blk_below (blk_drew Y0.out) hd.below)
  have G1 := Aside0.mk (Grows.drawn (G0.out.drew) hd)
  clear hd
  go_wp2_with fail
  try clear hHeld
  refine hK.out _ _ (six_held X1.out Y1.out) (fun hHeld => ?_)
  clear hK K
  try simp only [Act.put, List.setIfInBounds_toArray, List.set_cons_zero, List.set_cons_succ, List.getElem_toArray, List.getElem_cons_succ, List.getElem_cons_zero]
  refine wpAnyH_ready (rs := [9]) (by kernel_rfl) (by simp) ?_
  refine AllReadyH.cons rfl (fun K hK => ?_) AllReadyH.nil
  go_simp
  refine (C1.out _).mono ?_
  rintro e w2 ⟨rfl, hd⟩
  have X2 := Aside0.mk (blk_below (X1.out) hd.below)
  have Y2 := Aside0.mk (blk_below (Y1.out) hd.below)
  have G2 := Aside0.mk (Grows.drawn (G1.out) hd)
  clear hd
  go_wp2_with fail
  try clear hHeld
  refine hK.out _ _ (six_held X2.out Y2.out) (fun hHeld => ?_)
  clear hK K
  try simp only [Act.put, List.setIfInBounds_toArray, List.set_cons_zero, List.set_cons_succ, List.getElem_toArray, List.getElem_cons_succ, List.getElem_cons_zero]
  refine wpAnyH_ready (rs := [14]) (by kernel_rfl) (by simp) ?_
  refine AllReadyH.cons rfl (fun K hK => ?_) AllReadyH.nil
  go_simp
  refine (C2.out _).mono ?_
  rintro e w3 ⟨rfl, hd⟩
  have X3 := Aside0.mk (blk_below (X2.out) hd.below)
  have Y3 := Aside0.mk (blk_below (Y2.out) hd.below)
  have G3 := Aside0.mk (Grows.drawn (G2.out) hd)
  clear hd
  go_wp2_with fail
  try clear hHeld
  refine hK.out _ _ (six_held X3.out Y3.out) (fun hHeld => ?_)
  clear hK K
  try simp only [Act.put, List.setIfInBounds_toArray, List.set_cons_zero, List.set_cons_succ, List.getElem_toArray, List.getElem_cons_succ, List.getElem_cons_zero]
  refine wpAnyH_ready (rs := [15]) (by kernel_rfl) (by simp) ?_
  refine AllReadyH.cons rfl (fun K hK => ?_) AllReadyH.nil
  go_simp
  try clear hHeld
  refine hK.out _ _ (six_held (blk_alloc X3.out (.cells #[.int .i64 r0, .int .i64 r1, .int .i64 r2] 3)) (blk_alloc Y3.out (.cells #[.int .i64 r0, .int .i64 r1, .int .i64 r2] 3))) (fun hHeld => ?_)
  clear hK K
  try simp only [Act.put, List.setIfInBounds_toArray, List.set_cons_zero, List.set_cons_succ, List.getElem_toArray, List.getElem_cons_succ, List.getElem_cons_zero]
  refine wpAnyH_ready (rs := [16]) (by kernel_rfl) (by simp) ?_
  refine AllReadyH.cons rfl (fun K hK => ?_) AllReadyH.nil
  go_simp
  refine (CO.out _ _ (three_reads (blk_new w3 (.cells #[.int .i64 r0, .int .i64 r1, .int .i64 r2] 3)))).mono ?_
  rintro e w4 ⟨rfl, hd⟩
  have X4 := Aside0.mk (blk_below (blk_alloc X3.out (.cells #[.int .i64 r0, .int .i64 r1, .int .i64 r2] 3)) hd.below)
  have Y4 := Aside0.mk (blk_below (blk_alloc Y3.out (.cells #[.int .i64 r0, .int .i64 r1, .int .i64 r2] 3)) hd.below)
  have G4 := Aside0.mk (Grows.drawn (G3.out.alloc (.cells #[.int .i64 r0, .int .i64 r1, .int .i64 r2] 3)) hd)
  clear hd
  go_wp2_with fail
  try clear hHeld
  refine hK.out _ _ (six_held X4.out Y4.out) (fun hHeld => ?_)
  clear hK K
  try simp only [Act.put, List.setIfInBounds_toArray, List.set_cons_zero, List.set_cons_succ, List.getElem_toArray, List.getElem_cons_succ, List.getElem_cons_zero]
  refine wpAnyH_take (i := 17) (v := ?v17) (rfl) (by kernel_rfl) (by kernel_rfl) (by kernel_rfl) (fun _ _ _ h => h) ?y17 (by assumption) ?r17
  case y17 => first | (refine Or.inr ⟨?_, ?_⟩; rfl; rfl) | (refine Or.inl ⟨?_, ?_⟩; rfl; intro w hSw; (try dsimp only at hSw); go_simp; try with_reducible rfl)
  simp only [Act.put, List.setIfInBounds_toArray, List.set_cons_zero, List.set_cons_succ, List.getElem_toArray, List.getElem_cons_succ, List.getElem_cons_zero]
  refine wpAnyH_done (by kernel_rfl) ?_ _
  clear hHeld
  go_wp2
  go_ret
  exact ⟨rfl, G4.out⟩
end Go.Proofs.Ytladjllencanlaa.Own
