/- The references' Flows, Bodies, Same in plain words (layer 19). -/
import Derived.Test.YtladjllencanlaaOwnR
namespace Go.Proofs.Ytladjllencanlaa.Own
open Go.RowKit Go.Proofs.Ytladjllencanlaa.PFlowTells Go.Proofs.YtladjllencanlaaW.PrintWords Go.Proofs.YtladjllencanlaaW.PrintLast Go.Proofs.YtladjllencanlaaW.PrintMore
set_option linter.unusedVariables false
set_option linter.unusedSimpArgs false

/-- A flow laid among others. -/
def ins (x : S27) : List S27 → List S27
  | [] => [x]
  | y :: r => if lexS y x then y :: ins x r else if y = x then x :: r else x :: y :: r
theorem ins_mem (x : S27) : ∀ (l : List S27) (y : S27), y ∈ ins x l ↔ y = x ∨ y ∈ l
  | [], y => by simp [ins]
  | z :: r, y => by
    unfold ins
    split
    · rw [List.mem_cons, ins_mem x r y, List.mem_cons]
      constructor
      · rintro (h | h | h)
        · exact .inr (.inl h)
        · exact .inl h
        · exact .inr (.inr h)
      · rintro (h | h | h)
        · exact .inr (.inl h)
        · exact .inl h
        · exact .inr (.inr h)
    · split
      next h => subst h; simp
      next h => simp
theorem ins_rise (x : S27) : ∀ l : List S27, l.Pairwise lexS → (ins x l).Pairwise lexS
  | [], _ => by simp [ins]
  | z :: r, h => by
    obtain ⟨h1, h2⟩ := List.pairwise_cons.1 h
    unfold ins
    split
    next hz =>
      refine List.pairwise_cons.2 ⟨fun y hy => ?_, ins_rise x r h2⟩
      rcases (ins_mem x r y).1 hy with rfl | k
      · exact hz
      · exact h1 y k
    next hz =>
      split
      next he => subst he; exact h
      next he =>
        have hxz : lexS x z := lex_total hz (Ne.symm he)
        refine List.pairwise_cons.2 ⟨fun y hy => ?_, h⟩
        rcases List.mem_cons.1 hy with rfl | k
        · exact hxz
        · exact lex_trans hxz (h1 y k)
theorem ins_len (x : S27) : ∀ l : List S27, (ins x l).length ≤ l.length + 1
  | [] => by simp [ins]
  | z :: r => by
    unfold ins
    have := ins_len x r
    split
    · simp; omega
    · split <;> simp
theorem rise_unique : ∀ {L M : List S27}, L.Pairwise lexS → M.Pairwise lexS → (∀ x, x ∈ L ↔ x ∈ M) → L = M
  | [], [], _, _, _ => rfl
  | [], b :: M, _, _, h => absurd ((h b).2 List.mem_cons_self) (by simp)
  | a :: L, [], _, _, h => absurd ((h a).1 List.mem_cons_self) (by simp)
  | a :: L, b :: M, hL, hM, h => by
    obtain ⟨l1, l2⟩ := List.pairwise_cons.1 hL
    obtain ⟨m1, m2⟩ := List.pairwise_cons.1 hM
    have hab : a = b := by
      rcases List.mem_cons.1 ((h a).1 List.mem_cons_self) with e | e
      · exact e
      · rcases List.mem_cons.1 ((h b).2 List.mem_cons_self) with k | k
        · exact k.symm
        · exact absurd (lex_trans (m1 a e) (l1 b k)) (lex_irr _)
    subst hab
    congr 1
    refine rise_unique l2 m2 (fun x => ?_)
    constructor
    · intro hx
      rcases List.mem_cons.1 ((h x).1 (List.mem_cons_of_mem _ hx)) with e | e
      · subst e; exact absurd (l1 x hx) (lex_irr _)
      · exact e
    · intro hx
      rcases List.mem_cons.1 ((h x).2 (List.mem_cons_of_mem _ hx)) with e | e
      · subst e; exact absurd (m1 x hx) (lex_irr _)
      · exact e
def insAll (out : List S27) (l : List S40) : List S27 := l.foldl (fun o x => ins (flOf x) o) out
theorem insAll_laws : ∀ (l : List S40) (out : List S27), out.Pairwise lexS → (insAll out l).Pairwise lexS ∧ ∀ y, y ∈ insAll out l ↔ y ∈ out ∨ y ∈ l.map flOf
  | [], out, h => ⟨h, fun y => by simp [insAll]⟩
  | x :: r, out, h => by
    obtain ⟨h1, h2⟩ := insAll_laws r (ins (flOf x) out) (ins_rise _ _ h)
    refine ⟨h1, fun y => ?_⟩
    show y ∈ insAll (ins (flOf x) out) r ↔ _
    rw [h2 y, ins_mem, List.map_cons, List.mem_cons]
    constructor
    · rintro ((h | h) | h)
      · exact .inr (.inl h)
      · exact .inl h
      · exact .inr (.inr h)
    · rintro (h | h | h)
      · exact .inl (.inr h)
      · exact .inl (.inl h)
      · exact .inr h
theorem insAll_flows (l : List S40) : insAll [] l = flowsOf l := by
  obtain ⟨h1, h2⟩ := insAll_laws l [] List.Pairwise.nil
  refine rise_unique h1 (flows_rise l) (fun x => ?_)
  rw [h2 x, flows_mem l x]
  simp
theorem less_f (x y : S27) : shunterref19_less.f x.f0 x.f1 x.f2 y.f0 y.f1 y.f2 = some (decide (lexS x y)) := by
  unfold shunterref19_less.f
  have key : ∀ {p q : Prop} [Decidable p] [Decidable q], (p ↔ q) → some (decide p) = some (decide q) := fun h => by
    congr 1
    rw [Bool.eq_iff_iff, decide_eq_true_eq, decide_eq_true_eq]
    exact h
  split
  · split
    · exact key (by unfold lexS; omega)
    · exact key (by unfold lexS; omega)
  · exact key (by unfold lexS; omega)
theorem rd27 (l : List S27) (i : Nat) (hi : i < l.length) : rd_T27 l (i : Int) = l[i] := by
  unfold rd_T27
  rw [Int.toNat_natCast, List.getD_eq_getElem?_getD, List.getElem?_eq_getElem hi]
  rfl
theorem bind_step {α β : Type} {a : α} {f : α → Option β} {r : Option β} (h : f a = r) : (some a).bind f = r := h
theorem rflows_l1 (l : List S40) (out : List S27) (i : Nat) (x : S27) (r : List S27) (f : Nat) (hi : i ≤ 1000) (ho : out.length ≤ 1000) : ∀ (n j : Nat) (nx : List S27), out.length - j ≤ n → j ≤ out.length → nx.length = j →
    (∀ f', f ≤ f' → shunterref19_Flows.l0 f' l (nx ++ ins x (out.drop j)) ((i + 1 : Nat) : Int) = some r) → ∀ k, out.length - j + 1 + f ≤ k → shunterref19_Flows.l1 k l out (i : Int) nx (j : Int) x.f0 x.f1 x.f2 = some r := by
  intro n
  induction n with
  | zero =>
    intro j nx hn hj hx H k hk
    obtain ⟨k, rfl⟩ : ∃ q, k = q + 1 := ⟨k - 1, by omega⟩
    have e : j = out.length := by omega
    unfold shunterref19_Flows.l1
    rw [if_neg (by omega), if_pos (by omega)]
    simp only [Option.bind_some]
    rw [if_pos (by omega), if_pos (by omega)]
    simp only [Int.toNat_natCast]
    have hd : out.drop j = [] := by rw [e, List.drop_length]
    rw [hd, if_pos (by simp; omega), wr1 i (by omega)]
    rw [hd] at H
    have := H k (by omega)
    simpa [ins] using this
  | succ n ih =>
    intro j nx hn hj hx H k hk
    by_cases hlt : j < out.length
    · obtain ⟨k, rfl⟩ : ∃ q, k = q + 1 := ⟨k - 1, by omega⟩
      have hd : out.drop j = out[j] :: out.drop (j + 1) := List.drop_eq_getElem_cons hlt
      rw [hd] at H
      unfold shunterref19_Flows.l1
      rw [if_pos (by omega), if_pos (by omega), rd27 out j hlt, less_f out[j] x]
      show (if decide (lexS out[j] x) = true then _ else _) = _
      by_cases hl : lexS out[j] x
      · rw [if_pos (decide_eq_true hl), if_pos (by omega), wr1 j (by omega)]
        refine ih (j + 1) (nx ++ [out[j]]) (by omega) (by omega) (by simp [hx]) (fun f' hf => ?_) k (by omega)
        have := H f' hf
        unfold ins at this
        rw [if_pos hl] at this
        rw [List.append_assoc]
        exact this
      · rw [if_neg (by simpa using hl)]
        have hs := s27_eq (x := out[j]) (y := x)
        rw [hs]
        by_cases he : out[j] = x
        · rw [if_pos (decide_eq_true he), if_pos (by omega)]
          rw [Option.bind_some]
          rw [wr1 j (by omega), if_pos (by omega), if_pos (by omega), Int.toNat_natCast]
          rw [Option.bind_some]
          have hlen : (nx ++ [(⟨x.f0, x.f1, x.f2⟩ : S27)]).length + (out.drop (j + 1)).length < 5864062014805 := by
            rw [List.length_append, List.length_drop, List.length_singleton]
            omega
          rw [if_pos hlen, wr1 i (by omega), List.append_assoc]
          have h3 := H k (by omega)
          have h4 : ins x (out[j] :: out.drop (j + 1)) = [(⟨x.f0, x.f1, x.f2⟩ : S27)] ++ out.drop (j + 1) := by
            unfold ins
            rw [if_neg hl, if_pos he]
            rfl
          rw [h4] at h3
          exact h3
        · rw [if_neg (by simpa using he), if_pos (by omega)]
          show (if (j : Int) ≤ (out.length : Int) then _ else _) = _
          rw [if_pos (by omega), Int.toNat_natCast]
          show (if (nx ++ [(⟨x.f0, x.f1, x.f2⟩ : S27)]).length + (out.drop j).length < _ then _ else _) = _
          rw [if_pos (by simp; omega), wr1 i (by omega), hd]
          have := H k (by omega)
          unfold ins at this
          rw [if_neg hl, if_neg he] at this
          rw [List.append_assoc]
          exact this
    · have e : j = out.length := by omega
      obtain ⟨k, rfl⟩ : ∃ q, k = q + 1 := ⟨k - 1, by omega⟩
      unfold shunterref19_Flows.l1
      rw [if_neg (by omega), if_pos (by omega)]
      simp only [Option.bind_some]
      rw [if_pos (by omega), if_pos (by omega)]
      simp only [Int.toNat_natCast]
      have hd : out.drop j = [] := by rw [e, List.drop_length]
      rw [hd, if_pos (by simp; omega), wr1 i (by omega)]
      rw [hd] at H
      have := H k (by omega)
      simpa [ins] using this
theorem rflows_l0 (l : List S40) (c : Nat) (hc : 1002 ≤ c) (hl : l.length ≤ 1000) : ∀ (n i : Nat) (out : List S27), l.length - i ≤ n → i ≤ l.length → out.length ≤ i → ∀ f, n * c + 1 ≤ f → shunterref19_Flows.l0 f l out (i : Int) = some (insAll out (l.drop i))
  | 0, i, out, hn, hi, ho, f, hf => by
    obtain ⟨f, rfl⟩ : ∃ q, f = q + 1 := ⟨f - 1, by omega⟩
    have e : i = l.length := by omega
    unfold shunterref19_Flows.l0
    rw [if_neg (by omega), e, List.drop_length]
    rfl
  | n + 1, i, out, hn, hi, ho, f, hf => by
    obtain ⟨f, rfl⟩ : ∃ q, f = q + 1 := ⟨f - 1, by omega⟩
    have hm : (n + 1) * c = n * c + c := Nat.succ_mul n c
    by_cases hlt : i < l.length
    · unfold shunterref19_Flows.l0
      rw [if_pos (by omega), if_pos (by omega), rd40 l i hlt, List.drop_eq_getElem_cons hlt]
      show shunterref19_Flows.l1 f l out (i : Int) [] ((0 : Nat) : Int) (flOf l[i]).f0 (flOf l[i]).f1 (flOf l[i]).f2 = _
      refine rflows_l1 l out i (flOf l[i]) _ (n * c + 1) (by omega) (by omega) out.length 0 [] (by omega) (by omega) rfl (fun f' hf' => ?_) f (by omega)
      rw [List.drop_zero, List.nil_append, rflows_l0 l c hc hl n (i + 1) (ins (flOf l[i]) out) (by omega) (by omega) (Nat.le_trans (ins_len _ _) (by omega)) f' hf']
      rfl
    · have e : i = l.length := by omega
      unfold shunterref19_Flows.l0
      rw [if_neg (by omega), e, List.drop_length]
      rfl
theorem rflows_f (l : List S40) (c : Nat) (hc : 1002 ≤ c) (hl : l.length ≤ 1000) : shunterref19_Flows.f (l.length * c + 1) l = some (flowsOf l) := by
  have := rflows_l0 l c hc hl l.length 0 [] (by omega) (by omega) (by simp) (l.length * c + 1) (Nat.le_refl _)
  rw [← insAll_flows l]
  simpa [shunterref19_Flows.f] using this
theorem rbodies_l0 (l : List S40) (f : S27) (hl : l.length ≤ 1000) : ∀ (n i : Nat) (out : List Int), l.length - i ≤ n → i ≤ l.length → out.length ≤ i → shunterref19_Bodies.l0 (n + 1) l out (i : Int) f.f0 f.f1 f.f2 = some (out ++ bodiesOf (l.drop i) f)
  | 0, i, out, hn, hi, ho => by
    have e : i = l.length := by omega
    subst e
    unfold shunterref19_Bodies.l0
    rw [if_neg (by omega), List.drop_length]
    simp [bodiesOf]
  | n + 1, i, out, hn, hi, ho => by
    by_cases hlt : i < l.length
    · unfold shunterref19_Bodies.l0
      rw [if_pos (by omega), if_pos (by omega), rd40 l i hlt, wr1 i (by omega), bodies_drop l f i hlt]
      show (if ((l[i]).f0 == f.f0 && ((l[i]).f1 == f.f1 && ((l[i]).f2 == f.f2))) = true then _ else _) = _
      rw [fl_test]
      by_cases h : flOf l[i] = f
      · rw [if_pos (decide_eq_true h), if_pos (by omega), rbodies_l0 l f hl n (i + 1) _ (by omega) (by omega) (by simp; omega), if_pos h]
        simp
      · rw [if_neg (by simp [h]), rbodies_l0 l f hl n (i + 1) _ (by omega) (by omega) (by omega), if_neg h]
        simp
    · have e : i = l.length := by omega
      subst e
      unfold shunterref19_Bodies.l0
      rw [if_neg (by omega), List.drop_length]
      simp [bodiesOf]
theorem rbodies_f (l : List S40) (f : S27) (hl : l.length ≤ 1000) : shunterref19_Bodies.f (l.length + 1) l f.f0 f.f1 f.f2 = some (bodiesOf l f) := by
  have := rbodies_l0 l f hl l.length 0 [] (by omega) (by omega) (by simp)
  simpa [shunterref19_Bodies.f] using this
theorem rbodies_calls (A : Option Addr) (c n : Nat) (l : List S40) (hn : l.length = n) (f : S27) (w : World) (hr : Kd.C k40 w A l.length l) (hc : l.length ≤ c) (hl : l.length ≤ 1000) :
    Calls Try.prog 18 #[.slice A n c, .agg #[.int .i64 f.f0, .int .i64 f.f1, .int .i64 f.f2]] w (Bds w (bodiesOf l f)) := by
  subst hn
  refine (shunterref19_Bodies.calls (l.length + 1) A c l f.f0 f.f1 f.f2 _ w hr hc (rbodies_f l f hl)).mono ?_
  rintro e w' ⟨v, rfl, hR, hb⟩
  obtain ⟨A', c', rfl, hle, hC⟩ := Kd.R_reads hR
  exact ⟨A', c', rfl, c32 hC, hle, hb⟩
theorem rflows_calls (A : Option Addr) (c n : Nat) (l : List S40) (hn : l.length = n) (w : World) (hr : Kd.C k40 w A l.length l) (hc : l.length ≤ c) (hl : l.length ≤ 1000) :
    Calls Try.prog 15 #[.slice A n c] w (Flws w l) := by
  subst hn
  obtain ⟨q, hq⟩ : ∃ q : Nat, 1002 ≤ q := ⟨_, Nat.le_refl _⟩
  refine (shunterref19_Flows.calls (l.length * q + 1) A c l _ w hr hc (rflows_f l q hq hl)).mono ?_
  rintro e w' ⟨v, rfl, hR, hb⟩
  obtain ⟨A', c', rfl, hle, hC⟩ := Kd.R_reads hR
  exact ⟨A', c', rfl, hC, hle, hb⟩
theorem bodies_short (l : List S40) (f : S27) : (bodiesOf l f).length ≤ l.length := by
  unfold bodiesOf
  rw [List.length_map]
  exact List.length_filter_le _ _
theorem same_calls (A B : Option Addr) (c d : Nat) (l : List Int) (w : World) (hg : ReadsInt w .u32 A l.length l) (hs : ReadsInt w .u32 B l.length l) (hc : l.length ≤ c) (hd : l.length ≤ d) (hl : l.length ≤ 1000000) :
    Calls Try.prog 16 #[.slice A l.length c, .slice B l.length d] w fun e w' => e = .returned (.bool true) ∧ Below w.heap.size w w' := by
  have hf : shunterref19_Same.f (l.length + 1) l l = some true := by
    unfold shunterref19_Same.f
    rw [if_pos rfl, rsub_f l l hl hl, List.isSublist_iff_sublist.2 (List.Sublist.refl _)]
    rfl
  refine (shunterref19_Same.calls (l.length + 1) A c l B d l _ w (kc32 hg) hc (kc32 hs) hd hf).mono ?_
  rintro e w' ⟨rfl, hw⟩
  exact ⟨rfl, hw.below⟩
end Go.Proofs.Ytladjllencanlaa.Own
