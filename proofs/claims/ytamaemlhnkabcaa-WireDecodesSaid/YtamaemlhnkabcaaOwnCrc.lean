/- Checks of bytes in plain numbers: a register of 16 bits, shifted and xored; it is linear, and takes apart what differs. -/
namespace Go.Proofs.Ytamaemlhnkabcaa.Crc

/-- One shift of the register. -/
def sh (r : Nat) : Nat := if 32768 ≤ r then (r * 2 % 65536) ^^^ 4129 else r * 2
/-- So many shifts. -/
def shn : Nat → Nat → Nat
  | 0, r => r
  | k + 1, r => sh (shn k r)
/-- A byte is taken. -/
def tk (r c : Nat) : Nat := shn 8 (r ^^^ (c * 256))
/-- The check of bytes, from a register on. -/
def run (r : Nat) (l : List Nat) : Nat := l.foldl tk r
def crc (l : List Nat) : Nat := run 65535 l

theorem xlc (a b c : Nat) : a ^^^ (b ^^^ c) = b ^^^ (a ^^^ c) := by rw [← Nat.xor_assoc, Nat.xor_comm a b, Nat.xor_assoc]
theorem xl_cancel {r x y : Nat} (h : r ^^^ x = r ^^^ y) : x = y := by
  have h3 : r ^^^ (r ^^^ x) = r ^^^ (r ^^^ y) := by rw [h]
  rwa [← Nat.xor_assoc, ← Nat.xor_assoc, Nat.xor_self, Nat.zero_xor, Nat.zero_xor] at h3
theorem xor_lt {a b : Nat} (ha : a < 65536) (hb : b < 65536) : a ^^^ b < 65536 := Nat.xor_lt_two_pow (n := 16) ha hb
theorem sh_lt {r : Nat} (h : r < 65536) : sh r < 65536 := by
  unfold sh
  split
  · exact xor_lt (by omega) (by omega)
  · omega
theorem shn_lt {r : Nat} (k : Nat) (h : r < 65536) : shn k r < 65536 := by
  induction k with
  | zero => exact h
  | succ k ih => exact sh_lt ih
theorem byte_lt {c : Nat} (h : c < 256) : c * 256 < 65536 := by omega
theorem tk_lt {r c : Nat} (h : r < 65536) (hc : c < 256) : tk r c < 65536 := shn_lt 8 (xor_lt h (byte_lt hc))

theorem top_iff {r : Nat} (h : r < 65536) : 32768 ≤ r ↔ r.testBit 15 = true := by
  constructor
  · intro h1
    rw [Nat.testBit_eq_decide_div_mod_eq]
    simp
    omega
  · intro h1
    have := Nat.ge_two_pow_of_testBit h1
    omega
theorem dbl_xor (a b : Nat) : (a ^^^ b) * 2 % 65536 = (a * 2 % 65536) ^^^ (b * 2 % 65536) := by
  apply Nat.eq_of_testBit_eq
  intro i
  rw [Nat.testBit_xor, show (65536 : Nat) = 2 ^ 16 from rfl, Nat.testBit_mod_two_pow, Nat.testBit_mod_two_pow, Nat.testBit_mod_two_pow]
  have e : ∀ x : Nat, x * 2 = x <<< 1 := fun x => by rw [Nat.shiftLeft_eq]
  rw [e, e, e, Nat.testBit_shiftLeft, Nat.testBit_shiftLeft, Nat.testBit_shiftLeft, Nat.testBit_xor]
  cases decide (i < 16) <;> cases decide (i ≥ 1) <;> simp
theorem sh_eq {r : Nat} (h : r < 65536) : sh r = (r * 2 % 65536) ^^^ (if r.testBit 15 then 4129 else 0) := by
  unfold sh
  by_cases c : 32768 ≤ r
  · rw [if_pos c, if_pos ((top_iff h).1 c)]
  · rw [if_neg c, if_neg (fun k => c ((top_iff h).2 k)), Nat.xor_zero]
    omega
theorem sh_xor {a b : Nat} (ha : a < 65536) (hb : b < 65536) : sh (a ^^^ b) = sh a ^^^ sh b := by
  rw [sh_eq ha, sh_eq hb, sh_eq (xor_lt ha hb), dbl_xor, Nat.testBit_xor]
  generalize a * 2 % 65536 = x
  generalize b * 2 % 65536 = y
  cases a.testBit 15 <;> cases b.testBit 15 <;> simp only [Bool.bne_true, Bool.bne_false, Bool.not_true, Bool.not_false, Bool.false_eq_true, if_false, if_true, Nat.xor_zero]
  · rw [Nat.xor_assoc]
  · rw [Nat.xor_assoc, Nat.xor_assoc, Nat.xor_comm y]
  · rw [Nat.xor_assoc, xlc 4129, Nat.xor_self, Nat.xor_zero]
theorem shn_xor {a b : Nat} (k : Nat) (ha : a < 65536) (hb : b < 65536) : shn k (a ^^^ b) = shn k a ^^^ shn k b := by
  induction k with
  | zero => rfl
  | succ k ih =>
    show sh (shn k (a ^^^ b)) = sh (shn k a) ^^^ sh (shn k b)
    rw [ih, sh_xor (shn_lt k ha) (shn_lt k hb)]
theorem xor_zero_eq {a b : Nat} (h : a ^^^ b = 0) : a = b := by
  have h1 : (a ^^^ b) ^^^ b = b := by rw [h, Nat.zero_xor]
  rwa [Nat.xor_assoc, Nat.xor_self, Nat.xor_zero] at h1
theorem sh_zero {r : Nat} (hz : sh r = 0) : r = 0 := by
  unfold sh at hz
  split at hz
  · have := xor_zero_eq hz
    omega
  · omega
theorem shn_zero {r : Nat} (k : Nat) (hz : shn k r = 0) : r = 0 := by
  induction k with
  | zero => exact hz
  | succ k ih => exact ih (sh_zero hz)
theorem shn_inj {a b : Nat} (k : Nat) (ha : a < 65536) (hb : b < 65536) (h : shn k a = shn k b) : a = b := by
  apply xor_zero_eq
  apply shn_zero k
  rw [shn_xor k ha hb, h, Nat.xor_self]
theorem shn_add (j k r : Nat) : shn j (shn k r) = shn (j + k) r := by
  induction j with
  | zero => rw [Nat.zero_add]; rfl
  | succ j ih => rw [show j + 1 + k = (j + k) + 1 by omega]; show sh (shn j (shn k r)) = sh (shn (j + k) r); rw [ih]
theorem shn_small {c : Nat} (hc : c < 256) : shn 8 c = c * 256 := by
  have step : ∀ x, x < 32768 → sh x = x * 2 := fun x hx => by unfold sh; rw [if_neg (by omega)]
  show sh (sh (sh (sh (sh (sh (sh (sh c))))))) = c * 256
  rw [step c (by omega), step (c * 2) (by omega), step (c * 2 * 2) (by omega), step (c * 2 * 2 * 2) (by omega), step (c * 2 * 2 * 2 * 2) (by omega), step (c * 2 * 2 * 2 * 2 * 2) (by omega), step (c * 2 * 2 * 2 * 2 * 2 * 2) (by omega), step (c * 2 * 2 * 2 * 2 * 2 * 2 * 2) (by omega)]
  omega
theorem tk_inj_reg {r s c : Nat} (hr : r < 65536) (hs : s < 65536) (hc : c < 256) (h : tk r c = tk s c) : r = s := by
  have h1 := shn_inj 8 (xor_lt hr (byte_lt hc)) (xor_lt hs (byte_lt hc)) h
  have h2 : (r ^^^ c * 256) ^^^ (c * 256) = (s ^^^ c * 256) ^^^ (c * 256) := by rw [h1]
  rwa [Nat.xor_assoc, Nat.xor_assoc, Nat.xor_self, Nat.xor_zero, Nat.xor_zero] at h2
theorem tk_inj_byte {r c d : Nat} (hr : r < 65536) (hc : c < 256) (hd : d < 256) (h : tk r c = tk r d) : c = d := by
  have h1 := shn_inj 8 (xor_lt hr (byte_lt hc)) (xor_lt hr (byte_lt hd)) h
  have h2 := xl_cancel h1
  omega
/-- Two bytes are sixteen bits. -/
theorem tk_two {r c d : Nat} (hr : r < 65536) (hc : c < 256) (hd : d < 256) : tk (tk r c) d = shn 16 ((r ^^^ c * 256) ^^^ d) := by
  have e : tk (tk r c) d = shn 8 (shn 8 (r ^^^ c * 256) ^^^ shn 8 d) := by
    rw [shn_small hd]
    rfl
  rw [e, ← shn_xor 8 (xor_lt hr (byte_lt hc)) (by omega), shn_add]
theorem join_bytes (a : Nat) : (a / 256 * 256) ^^^ (a % 256) = a := by
  apply Nat.eq_of_testBit_eq
  intro i
  rw [Nat.testBit_xor, show (256 : Nat) = 2 ^ 8 from rfl, Nat.testBit_mod_two_pow, ← Nat.shiftLeft_eq, ← Nat.shiftRight_eq_div_pow, Nat.testBit_shiftLeft, Nat.testBit_shiftRight]
  by_cases h : i < 8
  · simp [h, show ¬ (8 ≤ i) by omega]
  · have : 8 + (i - 8) = i := by omega
    simp [h, show 8 ≤ i by omega, this]
theorem tk_word {r a : Nat} (hr : r < 65536) (ha : a < 65536) : tk (tk r (a / 256)) (a % 256) = shn 16 (r ^^^ a) := by
  rw [tk_two hr (by omega) (by omega), Nat.xor_assoc, join_bytes a]
theorem tk_xor {r s c d : Nat} (hr : r < 65536) (hs : s < 65536) (hc : c < 256) (hd : d < 256) : tk (r ^^^ s) (c ^^^ d) = tk r c ^^^ tk s d := by
  have hx : (c ^^^ d) * 256 = c * 256 ^^^ d * 256 := by
    apply Nat.eq_of_testBit_eq
    intro i
    have e : ∀ x : Nat, x * 256 = x <<< 8 := fun x => by rw [Nat.shiftLeft_eq]
    rw [Nat.testBit_xor, e, e, e, Nat.testBit_shiftLeft, Nat.testBit_shiftLeft, Nat.testBit_shiftLeft, Nat.testBit_xor]
    cases decide (i ≥ 8) <;> simp
  unfold tk
  rw [hx, ← shn_xor 8 (xor_lt hr (byte_lt hc)) (xor_lt hs (byte_lt hd))]
  congr 1
  rw [Nat.xor_assoc, Nat.xor_assoc]
  congr 1
  rw [← Nat.xor_assoc, ← Nat.xor_assoc, Nat.xor_comm s]

/-- All are bytes. -/
def Bytes (l : List Nat) : Prop := ∀ x ∈ l, x < 256
theorem run_nil (r : Nat) : run r [] = r := by unfold run; rw [List.foldl_nil]
theorem run_cons (r c : Nat) (l : List Nat) : run r (c :: l) = run (tk r c) l := by unfold run; rw [List.foldl_cons]
theorem run_lt {r : Nat} {l : List Nat} (h : r < 65536) (hl : Bytes l) : run r l < 65536 := by
  induction l generalizing r with
  | nil => exact h
  | cons c l ih =>
    rw [run_cons]
    exact ih (tk_lt h (hl c (by simp))) (fun x hx => hl x (by simp [hx]))
theorem run_append (r : Nat) (l m : List Nat) : run r (l ++ m) = run (run r l) m := List.foldl_append ..
theorem run_inj {r s : Nat} {l : List Nat} (hr : r < 65536) (hs : s < 65536) (hl : Bytes l) (h : run r l = run s l) : r = s := by
  induction l generalizing r s with
  | nil => exact h
  | cons c l ih =>
    have hc := hl c (by simp)
    rw [run_cons, run_cons] at h
    exact tk_inj_reg hr hs hc (ih (tk_lt hr hc) (tk_lt hs hc) (fun x hx => hl x (by simp [hx])) h)
theorem run_set {r k : Nat} {l : List Nat} {y : Nat} (hr : r < 65536) (hl : Bytes l) (hk : k < l.length) (hy : y < 256) (h : run r (l.set k y) = run r l) : y = l[k] := by
  induction l generalizing r k with
  | nil => simp at hk
  | cons c l ih =>
    have hc := hl c (by simp)
    have hl' : Bytes l := fun x hx => hl x (by simp [hx])
    cases k with
    | zero =>
      rw [List.set_cons_zero, run_cons, run_cons] at h
      exact tk_inj_byte hr hy hc (run_inj (tk_lt hr hy) (tk_lt hr hc) hl' h)
    | succ k =>
      rw [List.set_cons_succ, run_cons, run_cons] at h
      exact ih (tk_lt hr hc) hl' (by simpa using hk) h
theorem run_set_two {r k : Nat} {l : List Nat} {y z : Nat} (hr : r < 65536) (hl : Bytes l) (hk : k + 1 < l.length) (hy : y < 256) (hz : z < 256) (h : run r ((l.set k y).set (k + 1) z) = run r l) : y = l[k]'(by omega) ∧ z = l[k + 1] := by
  induction l generalizing r k with
  | nil => simp at hk
  | cons c l ih =>
    have hc := hl c (by simp)
    have hl' : Bytes l := fun x hx => hl x (by simp [hx])
    cases k with
    | zero =>
      cases l with
      | nil => simp at hk
      | cons d l =>
        have hd := hl' d (by simp)
        have hl'' : Bytes l := fun x hx => hl' x (by simp [hx])
        rw [List.set_cons_zero, List.set_cons_succ, List.set_cons_zero, run_cons, run_cons, run_cons, run_cons] at h
        have h1 : tk (tk r y) z = tk (tk r c) d := run_inj (tk_lt (tk_lt hr hy) hz) (tk_lt (tk_lt hr hc) hd) hl'' h
        rw [tk_two hr hy hz, tk_two hr hc hd] at h1
        have h2 := shn_inj 16 (xor_lt (xor_lt hr (byte_lt hy)) (by omega)) (xor_lt (xor_lt hr (byte_lt hc)) (by omega)) h1
        rw [Nat.xor_assoc, Nat.xor_assoc] at h2
        have h3 := xl_cancel h2
        have j1 := join_bytes (y * 256 + z)
        have j2 := join_bytes (c * 256 + d)
        rw [show (y * 256 + z) / 256 = y by omega, show (y * 256 + z) % 256 = z by omega] at j1
        rw [show (c * 256 + d) / 256 = c by omega, show (c * 256 + d) % 256 = d by omega] at j2
        rw [j1, j2] at h3
        simp only [List.getElem_cons_zero, List.getElem_cons_succ]
        omega
    | succ k =>
      rw [List.set_cons_succ, List.set_cons_succ, run_cons, run_cons] at h
      exact ih (tk_lt hr hc) hl' (by simpa using hk) h
theorem run_word {r a : Nat} (hr : r < 65536) (ha : a < 65536) : run r [a / 256, a % 256] = shn 16 (r ^^^ a) := by
  rw [run_cons, run_cons, run_nil, tk_word hr ha]
theorem crc_self {l : List Nat} (hl : Bytes l) : crc (l ++ [crc l / 256, crc l % 256]) = 0 := by
  have h := run_lt (r := 65535) (by omega) hl
  unfold crc
  rw [run_append, run_word h h, Nat.xor_self]
  decide
theorem crc_word_iff {l : List Nat} (hl : Bytes l) {a b : Nat} (ha : a < 65536) (hb : b < 65536) : crc (l ++ [a / 256, a % 256]) = crc (l ++ [b / 256, b % 256]) ↔ a = b := by
  have h := run_lt (r := 65535) (by omega) hl
  unfold crc
  rw [run_append, run_append, run_word h ha, run_word h hb]
  constructor
  · intro e
    have e2 := shn_inj 16 (xor_lt h ha) (xor_lt h hb) e
    exact xl_cancel e2
  · intro e; rw [e]
theorem run_three {r s t : Nat} {a b c : List Nat} (hr : r < 65536) (hs : s < 65536) (ht : t < 65536) (n : Nat) (ha : Bytes a) (hb : Bytes b) (hc : Bytes c) (la : a.length = n) (lb : b.length = n) (lc : c.length = n) :
    run r a ^^^ run s b ^^^ run t c = run (r ^^^ s ^^^ t) ((List.range n).map fun i => a.getD i 0 ^^^ b.getD i 0 ^^^ c.getD i 0) := by
  induction n generalizing r s t a b c with
  | zero =>
    obtain rfl := List.eq_nil_of_length_eq_zero la
    obtain rfl := List.eq_nil_of_length_eq_zero lb
    obtain rfl := List.eq_nil_of_length_eq_zero lc
    simp only [run_nil, List.range_zero, List.map_nil]
  | succ n ih =>
    match a, b, c, la, lb, lc with
    | x :: a, y :: b, z :: c, la, lb, lc =>
      have hx := ha x (by simp)
      have hy := hb y (by simp)
      have hz := hc z (by simp)
      rw [List.range_succ_eq_map, List.map_cons, List.map_map]
      rw [run_cons, run_cons, run_cons, run_cons]
      rw [ih (tk_lt hr hx) (tk_lt hs hy) (tk_lt ht hz) (fun q hq => ha q (by simp [hq])) (fun q hq => hb q (by simp [hq])) (fun q hq => hc q (by simp [hq])) (by simpa using la) (by simpa using lb) (by simpa using lc)]
      have hxy : x ^^^ y < 256 := Nat.xor_lt_two_pow (n := 8) hx hy
      simp only [List.getD_cons_zero]
      rw [tk_xor (xor_lt hr hs) ht hxy hz, tk_xor hr hs hx hy]
      rfl
end Go.Proofs.Ytamaemlhnkabcaa.Crc
