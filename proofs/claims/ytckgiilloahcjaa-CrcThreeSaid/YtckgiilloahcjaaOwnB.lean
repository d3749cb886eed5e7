/- Rows of bytes of the call's own; the walks of layer 2's known and CrcOne. -/
import Derived.Test.YtckgiilloahcjaaOwnA
import Derived.Lib.SlBytesConst
namespace Go.Proofs.Ytckgiilloahcjaa.Own
open Go.RowKit Go.Proofs.Ytckgiilloahcjaa.Crc Go.Proofs.YtckgiilloahcjaaW.PrintWords Go.Proofs.YtckgiilloahcjaaW.PrintLast Go.Proofs.YtckgiilloahcjaaW.PrintMore
set_option linter.unusedVariables false
set_option linter.unusedSimpArgs false

/-- A block of bytes is read as they are. -/
theorem reads_block {W : World} {g : Nat} {cs : Array Value} {fr : Nat × Nat} (h : W.heap[g]? = some (.cells cs 5 fr)) (l : List Int) (hn : l.length ≤ 9223372036854775807) (hc : ∀ k, k < l.length → cs[k]? = some (.int .u8 (l.getD k 0))) : ReadsInt W .u8 (some ⟨g, 0, none⟩) l.length l :=
  ⟨rfl, hn, fun _ => ⟨_, rfl, fun j hj => by rw [add_plain]; exact (cell_of_row W g j cs 5 fr h).trans (hc j hj)⟩⟩
theorem Oct.cons {a : Int} {l : List Int} (h0 : 0 ≤ a) (h1 : a ≤ 255) (h : Oct l) : Oct (a :: l) := by
  intro x hx
  rcases List.mem_cons.1 hx with rfl | hx
  · simp [Lit.wf, IntKind.min, IntKind.max, IntKind.bits, IntKind.signed]; omega
  · exact h x hx
theorem Oct.nil : Oct [] := fun x hx => by simp at hx
theorem ret_bool {a b : Bool} (h : a = b) : Ending.returned (.bool a) = Ending.returned (.bool b) := by rw [h]

def nine : List Int := [49, 50, 51, 52, 53, 54, 55, 56, 57]
theorem nine_crc : crcI nine = 10673 := by decide +kernel
theorem nine_oct : Oct nine := by
  unfold nine
  exact Oct.cons (by omega) (by omega) (Oct.cons (by omega) (by omega) (Oct.cons (by omega) (by omega) (Oct.cons (by omega) (by omega) (Oct.cons (by omega) (by omega) (Oct.cons (by omega) (by omega) (Oct.cons (by omega) (by omega) (Oct.cons (by omega) (by omega) (Oct.cons (by omega) (by omega) Oct.nil))))))))
theorem nine_reads {W : World} {g : Nat} {fr : Nat × Nat} (h : W.heap[g]? = some (.cells #[.int .u8 49, .int .u8 50, .int .u8 51, .int .u8 52, .int .u8 53, .int .u8 54, .int .u8 55, .int .u8 56, .int .u8 57] 5 fr)) : ReadsInt W .u8 (some ⟨g, 0, none⟩) 9 nine :=
  reads_block h nine (by decide) (by
    intro k hk
    have hk : k < 9 := hk
    match k, hk with
    | 0, _ => rfl
    | 1, _ => rfl
    | 2, _ => rfl
    | 3, _ => rfl
    | 4, _ => rfl
    | 5, _ => rfl
    | 6, _ => rfl
    | 7, _ => rfl
    | 8, _ => rfl)

set_option maxHeartbeats 4000000 in
set_option maxRecDepth 100000 in
/-- The chapter's example stands. -/
theorem known_calls (w : World) : Calls Try.prog 11 #[] w fun e w' => e = .returned (.bool true) ∧ Below w.heap.size w w' := by
  have hs : Calls Try.prog 12 #[.slice (some ⟨w.heap.size, 0, none⟩) 9 9] (w.alloc (.cells #[.int .u8 49, .int .u8 50, .int .u8 51, .int .u8 52, .int .u8 53, .int .u8 54, .int .u8 55, .int .u8 56, .int .u8 57] 5 (9, 10))) fun e w' => e = .returned (.int .u16 10673) ∧ Below w.heap.size w w' :=
    (sum_calls (some ⟨w.heap.size, 0, none⟩) 9 nine _ (nine_reads (blk_new w _)) nine_oct).mono fun e w' ⟨he, hb⟩ => ⟨by rw [he, nine_crc], below_then (below_alloc (Below.refl _ _) _) (below_alloc (Below.refl _ _) _).size hb⟩
  have HS := Aside0.mk hs
  clear hs
  have hcv := fun (w : World) (C : Array Value) (n c : Nat) => Lib.run_convert_bytes_const (P := Try.prog) w 22 5 C n c Try.underlying22 Try.underlying5
  go_enter Try.func11, Try.ntmps11
  go_wp2_with fail
  refine HS.out.mono ?_
  rintro e w1 ⟨rfl, hb⟩
  have B1 := Aside0.mk hb
  clear hb
  go_wp2_with fail
  refine (sum_none 0 _).mono ?_
  rintro e w2 ⟨rfl, hb⟩
  have B2 := Aside0.mk (below_then B1.out B1.out.size hb)
  clear hb
  go_wp2
  go_ret
  exact ⟨rfl, B2.out⟩

theorem one_eq {a b : Int} (a0 : 0 ≤ a) (a1 : a ≤ 255) (b0 : 0 ≤ b) (b1 : b ≤ 255) : ((crcI [a] == crcI [b]) == (a == b)) = true := by
  have key : crcI [a] = crcI [b] ↔ a = b := by
    constructor
    · intro h
      have h2 : run 65535 (nat [a]) = run 65535 (nat [b]) := by unfold crcI crc at h; omega
      unfold nat at h2
      rw [List.map_cons, List.map_nil, List.map_cons, List.map_nil, run_cons, run_nil, run_cons, run_nil] at h2
      have := tk_inj_byte (r := 65535) (by omega) (by omega) (by omega) h2
      omega
    · intro h; rw [h]
  by_cases h : a = b
  · subst h; simp
  · have : crcI [a] ≠ crcI [b] := fun k => h (key.1 k)
    rw [beq_eq_false_iff_ne.mpr this, beq_eq_false_iff_ne.mpr h]; rfl
theorem one_reads {W : World} {g : Nat} {a : Int} (h : W.heap[g]? = some (.cells #[.int .u8 a] 5 (0, 0))) : ReadsInt W .u8 (some ⟨g, 0, none⟩) 1 [a] :=
  reads_block h [a] (by simp) (by
    intro k hk
    have hk : k < 1 := hk
    match k, hk with
    | 0, _ => rfl)

set_option maxHeartbeats 4000000 in
set_option maxRecDepth 100000 in
theorem crcOne_walk (a b : Int) (w : World) (w0 : (Lit.int .u8 a).wf = true) (w1 : (Lit.int .u8 b).wf = true) :
    Calls Try.prog 4 #[.int .u8 a, .int .u8 b] w fun e w' => e = .returned (.bool true) ∧ Below w.heap.size w w' := by
  obtain ⟨a0, a1⟩ := lo8 w0
  obtain ⟨b0, b1⟩ := lo8 w1
  have E := Aside0.mk (one_eq a0 a1 b0 b1)
  have A := Aside0.mk (fun (W : World) (g : Nat) (h : W.heap[g]? = some (.cells #[.int .u8 a] 5 (0, 0))) => sum_calls (some ⟨g, 0, none⟩) 1 [a] W (one_reads h) (Oct.cons a0 a1 Oct.nil))
  have B := Aside0.mk (fun (W : World) (g : Nat) (h : W.heap[g]? = some (.cells #[.int .u8 b] 5 (0, 0))) => sum_calls (some ⟨g, 0, none⟩) 1 [b] W (one_reads h) (Oct.cons b0 b1 Oct.nil))
  clear w0 w1
  go_enter Try.func4, Try.ntmps4
  go_wp2_with fail
  refine (known_calls _).mono ?_
  rintro e w1 ⟨rfl, hb⟩
  have B1 := Aside0.mk hb
  clear hb
  go_wp2_with fail
  refine (A.out _ _ (blk_new _ _)).mono ?_
  rintro e w2 ⟨rfl, hb⟩
  have B2 := Aside0.mk (below_then (below_then B1.out B1.out.size (below_alloc (Below.refl _ _) _)) (by have := B1.out.size; simp; omega) hb)
  clear hb
  go_wp2_with fail
  refine (B.out _ _ (blk_new _ _)).mono ?_
  rintro e w3 ⟨rfl, hb⟩
  have B3 := Aside0.mk (below_then (below_then B2.out B2.out.size (below_alloc (Below.refl _ _) _)) (by have := B2.out.size; simp; omega) hb)
  clear hb
  go_wp2
  go_ret
  exact ⟨ret_bool E.out, B3.out⟩
end Go.Proofs.Ytckgiilloahcjaa.Own
