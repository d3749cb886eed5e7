/- Rows of numbers of the call's own; FlowOther, FlowLeaves (layer 19). -/
import Derived.Test.YtladjllencanlaaOwnM
namespace Go.Proofs.Ytladjllencanlaa.Own
open Go.RowKit Go.Proofs.Ytladjllencanlaa.PFlowTells Go.Proofs.YtladjllencanlaaW.PrintWords Go.Proofs.YtladjllencanlaaW.PrintLast Go.Proofs.YtladjllencanlaaW.PrintMore
set_option linter.unusedVariables false
set_option linter.unusedSimpArgs false

theorem info31n : (Try.prog.info? 31).map (fun i => (i.zero, i.size, i.bytes)) = some (some (.int .u32 0), 1, 4) := by kernel_rfl
/-- A row of numbers of the call's own. -/
def R32 (w0 w : World) (v : Value) (l : List Int) : Prop := (Kd.int .u32).R 31 w w0.heap.size (fun _ => True) v l ∧ Below w0.heap.size w0 w
theorem R32.bel {w0 w : World} {v : Value} {l : List Int} (h : R32 w0 w v l) : Below w0.heap.size w0 w := h.2
theorem R32.nil {w0 w : World} (hb : Below w0.heap.size w0 w) : R32 w0 w (.slice none 0 0) [] := ⟨Kd.R_nil _ _ _ _ _, hb⟩
theorem R32.below {w0 w w1 : World} {v : Value} {l : List Int} (h : R32 w0 w v l) (hb : Below w.heap.size w w1) : R32 w0 w1 v l := ⟨Kd.R_below h.1 hb, below_then h.2 h.2.size hb⟩
theorem R32.reads {w0 w : World} {v : Value} {l : List Int} (h : R32 w0 w v l) : ∃ A c, v = .slice A l.length c ∧ l.length ≤ c ∧ ReadsInt w .u32 A l.length l := by
  obtain ⟨A, c, e, hl, hC⟩ := Kd.R_reads h.1
  exact ⟨A, c, e, hl, c32 hC⟩
theorem append_num {ops : Array Oper} {rest : List Oper} {o : Oper} {a : Act} {Q : Exit → Act → World → Prop} {w0 w : World} (hgd : o.guard = none) (s x : Operand)
    (ho : o.op = .call { callee := .builtin .append, args := #[s, x], argTypes := #[29, 29] })
    (v : Value) (l : List Int) (R : R32 w0 w v l) (p : Int) (hlen : l.length ≤ 100000) (hs : a.eval s = v) (hx : a.eval x = .slice (some ⟨w.heap.size, 0, none⟩) 1 1)
    (h : ∀ v' w', R32 w0 w' v' (l ++ [p]) → wpList Try.prog ops Q rest (a.put o.dst v') w') : wpList Try.prog ops Q (o :: rest) a (w.alloc (.cells #[.int .u32 p] 31)) := by
  refine Kd.R_append (Kd.int .u32) (w0 := w0) w0.heap.size hgd s x 29 31 (.int .u32 0) 4 ho Try.underlying29 info31n rfl (by decide) (by decide) v l p [.int .u32 p] (fun _ => True) (fun _ => False) hs hx rfl (fun _ k => k.elim) (fun _ _ => trivial) R.1 R.2 R.2.size (by omega) ?_
  intro v1 w1 h1 hb1 _ _
  exact h v1 w1 ⟨h1, hb1⟩
theorem append_nums {ops : Array Oper} {rest : List Oper} {o : Oper} {a : Act} {Q : Exit → Act → World → Prop} {w0 w : World} (hgd : o.guard = none) (s x : Operand)
    (ho : o.op = .call { callee := .builtin .append, args := #[s, x], argTypes := #[29, 29] })
    (v : Value) (l : List Int) (R : R32 w0 w v l) (m : List Int) (A : Option Addr) (n c : Nat) (hr : ReadsInt w .u32 A n m) (hlen : l.length + n ≤ 100000) (hs : a.eval s = v) (hx : a.eval x = .slice A n c)
    (h : ∀ v' w', R32 w0 w' v' (l ++ m) → wpList Try.prog ops Q rest (a.put o.dst v') w') : wpList Try.prog ops Q (o :: rest) a w := by
  refine Kd.R_append_rows (Kd.int .u32) (Rr := (Kd.int .u32).K w) (w0 := w0) w0.heap.size hgd s x 29 31 (.int .u32 0) 4 ho Try.underlying29 info31n rfl (by decide) (by decide) v l m A n c (fun _ => True) (fun _ => False) hs hx R.1 (kc32 hr) (fun x cs k => k) (fun _ k => k.elim) (fun _ _ => trivial) R.2 R.2.size (by omega) ?_
  intro v1 w1 h1 hb1 _ _
  exact h v1 w1 ⟨h1, hb1⟩
theorem sub_one (x : Int) : ∀ s : List Int, [x].isSublist s = s.contains x
  | [] => by simp [List.isSublist]
  | y :: r => by
    rw [List.isSublist]
    by_cases h : x = y
    · subst h
      rw [if_pos (by simp), List.isSublist_iff_sublist.2 (List.nil_sublist _)]
      simp
    · rw [if_neg (by simpa using h), sub_one x r]
      simp [h]
theorem sub_more (s : List Int) (x : Int) : (s ++ [x]).isSublist s = false := by
  rcases h : (s ++ [x]).isSublist s with _ | _
  · rfl
  · have := (List.isSublist_iff_sublist.1 h).length_le
    simp at this
    omega
theorem contains_take (s : List Int) (x : Int) (k : Nat) (hk : k < s.length) : (s.take (k + 1)).contains x = ((s.take k).contains x || (s.getD k 0 == x)) := by
  rw [List.take_succ_eq_append_getElem hk, List.getD_eq_getElem?_getD, List.getElem?_eq_getElem hk, Bool.eq_iff_iff]
  simp only [List.contains_iff_mem, List.mem_append, List.mem_singleton, Bool.or_eq_true, beq_iff_eq, Option.getD_some]
  exact ⟨fun h => h.imp id Eq.symm, fun h => h.imp id Eq.symm⟩
theorem one_read {W : World} {g : Nat} {a : Int} {t : TypeId} (h : W.heap[g]? = some (.cells #[.int .u32 a] t (0, 0))) : ReadsInt W .u32 (some ⟨g, 0, none⟩) [a].length [a] :=
  reads_new h [a] (by simp) (fun k hk => by
    have hk : k < 1 := hk
    match k, hk with
    | 0, _ => rfl)
set_option maxHeartbeats 1000000 in
set_option maxRecDepth 100000 in
theorem other_big (A : Option Addr) (c : Nat) (s : List Int) (x : Int) (w : World) (hl : 200 < s.length) : Calls Try.prog 5 #[.slice A s.length c, .int .u32 x] w fun e w' => e = .returned (.bool true) ∧ Below w.heap.size w w' := by
  have e0 : decide ((s.length : Int) > 200) = true := decide_eq_true (by omega)
  clear hl
  go_enter Try.func5, Try.ntmps5
  go_wp2_with fail
  refine (known_calls _).mono ?_
  rintro e w1 ⟨rfl, hb⟩
  have B1 := Aside0.mk hb
  clear hb
  go_wp2
  go_ret
  exact ⟨rfl, B1.out⟩
set_option maxHeartbeats 1000000 in
set_option maxRecDepth 100000 in
theorem other_ok (A : Option Addr) (c : Nat) (s : List Int) (x : Int) (w : World) (hr : ReadsInt w .u32 A s.length s) (hc : s.length ≤ c) (hl : ¬ 200 < s.length) : Calls Try.prog 5 #[.slice A s.length c, .int .u32 x] w fun e w' => e = .returned (.bool true) ∧ Below w.heap.size w w' := by
  have e0 : decide ((s.length : Int) > 200) = false := decide_eq_false (by omega)
  have HR := Aside0.mk hr
  have HC := Aside0.mk hc
  have HL := Aside0.mk hl
  clear hr hc hl
  go_enter Try.func5, Try.ntmps5
  go_wp2_with fail
  refine (known_calls _).mono ?_
  rintro e w1 ⟨rfl, hb⟩
  have B1 := Aside0.mk hb
  have HR1 := Aside0.mk (HR.out.below hb)
  clear hb
  go_wp2
  go_loopg [5, 6] s.length (fun n s5 s6 wr => ∃ k : Nat, k + n = s.length ∧ s6 = .int .i64 k ∧ s5 = .bool ((s.take k).contains x) ∧ w1 = wr)
  case atStart => exact ⟨0, by omega, rfl, rfl, rfl⟩
  case round =>
    obtain ⟨k, hk, rfl, rfl, rfl⟩ := hrel
    by_cases hlt : k < s.length
    · obtain ⟨ad, rfl, hcs⟩ := HR1.out.2.2 (by omega)
      have hy := hcs k hlt
      clear hcs
      have CT := Aside0.mk (contains_take s x k hlt)
      generalize s.getD k 0 = y at hy CT
      have e1 : (k : Int) < (s.length : Int) := by omega
      have hls := HL.out
      generalize (s.take k).contains x = b at CT
      cases b with
      | true =>
        go_wp2
        go_roundg (s.length - (k + 1))
        case measure => omega
        case rel => exact ⟨k + 1, by omega, by go_num, by rw [CT.out]; rfl, rfl⟩
      | false =>
        rcases hyx : (y == x) with _ | _
        · go_wp2
          go_roundg (s.length - (k + 1))
          case measure => omega
          case rel => exact ⟨k + 1, by omega, by go_num, by rw [CT.out, hyx]; rfl, rfl⟩
        · go_wp2
          go_roundg (s.length - (k + 1))
          case measure => omega
          case rel => exact ⟨k + 1, by omega, by go_num, by rw [CT.out, hyx]; rfl, rfl⟩
    · have hkl : k = s.length := by omega
      have e1 : ¬ (k : Int) < (s.length : Int) := by omega
      have ET := Aside0.mk (show (s.take k).contains x = s.contains x by rw [List.take_of_length_le (by omega)])
      have LA : Aside0 (([] : List Int).length + s.length ≤ 100000) := Aside0.mk (by have := HL.out; simp; omega)
      have LB : Aside0 (([] ++ s).length ≤ 100000) := Aside0.mk (by have := HL.out; simp; omega)
      rw [ET.out]
      have SO := Aside0.mk (sub_one x s)
      generalize s.contains x = b at SO ⊢
      clear hkl
      go_wp2_with (first
        | (at_builtin; refine append_nums rfl _ _ rfl _ [] (R32.nil B1.out) s A _ _ HR1.out LA.out rfl rfl ?_; intro v2 w2 R2; have R2 := Aside0.mk R2)
        | (at_builtin; refine append_num rfl _ _ rfl _ _ R2.out x LB.out rfl rfl ?_; intro v3 w3 R3; rw [List.nil_append] at R3; have HR3 := Aside0.mk (show ReadsInt w3 .u32 A s.length s from HR.out.below R3.bel); have B3 := Aside0.mk R3.bel; obtain ⟨A6, c6, rfl, hc6, hr6⟩ := R3.reads; have HC6 := Aside0.mk hc6; have HR6 := Aside0.mk hr6; clear R3 hc6 hr6))
      have r1 := one_read (blk_new w3 (.cells #[.int .u32 x] 31))
      have r2 := HR3.out.below (below_alloc (Below.refl _ _) (.cells #[.int .u32 x] 31))
      refine (sub_at (some ⟨w3.heap.size, 0, none⟩) A 1 c 1 s.length [x] s rfl rfl _ r1 r2 (Nat.le_refl 1) HC.out SO.out).mono ?_
      rintro e wx ⟨rfl, rfl⟩
      clear r1 r2
      have HR4 := Aside0.mk (HR3.out.below (below_alloc (Below.refl _ _) (.cells #[.int .u32 x] 31)))
      have HR7 := Aside0.mk (HR6.out.below (below_alloc (Below.refl _ _) (.cells #[.int .u32 x] 31)))
      have B4 := Aside0.mk (below_alloc B3.out (.cells #[.int .u32 x] 31))
      generalize w3.alloc (.cells #[.int .u32 x] 31) = w4 at HR4 HR7 B4 ⊢
      go_wp2_with fail
      refine (sub_at A6 A c6 c _ s.length (s ++ [x]) s (by simp) rfl _ HR7.out HR4.out HC6.out HC.out (sub_more s x)).mono ?_
      rintro e wx ⟨rfl, rfl⟩
      go_wp2_with fail
      refine (lost_at A6 A c6 c _ s.length (s ++ [x]) s (by simp) rfl _ HR7.out HR4.out HC6.out HC.out (r := -1) (by unfold lostN; rw [sub_more]; rfl)).mono ?_
      rintro e wx ⟨rfl, rfl⟩
      go_wp2
      go_ret
      exact ⟨by first | rfl | (cases b <;> rfl), B4.out⟩
theorem flowOther_term (A : Option Addr) (c : Nat) (s : List Int) (x : Int) (w : World) (hr : ReadsInt w .u32 A s.length s) (hm : s.length ≤ maxLen) (hw : ∀ y ∈ s, (Lit.int .u32 y).wf = true) (hy : s.length * 4 ≤ 140737488351232) (hn : A = none → c = 0) (hc : s.length ≤ c) (hx : (Lit.int .u32 x).wf = true) :
    Calls Try.prog 5 #[.slice A s.length c, .int .u32 x] w fun e w' => e = .returned (.bool true) ∧ Below w.heap.size w w' := by
  by_cases hl : 200 < s.length
  · exact other_big A c s x w hl
  · exact other_ok A c s x w hr hc hl
end Go.Proofs.Ytladjllencanlaa.Own
