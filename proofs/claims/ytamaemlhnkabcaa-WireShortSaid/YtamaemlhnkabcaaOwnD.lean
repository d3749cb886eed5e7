/- Frames as numbers, read, Decode (layer 3). -/
import Derived.Test.YtamaemlhnkabcaaOwnC
namespace Go.Proofs.Ytamaemlhnkabcaa.Own
open Go.RowKit Go.Proofs.Ytamaemlhnkabcaa.Crc Go.Proofs.Ytamaemlhnkabcaa.PWireRefuses Go.Proofs.YtamaemlhnkabcaaW.PrintWords Go.Proofs.YtamaemlhnkabcaaW.PrintLast Go.Proofs.YtamaemlhnkabcaaW.PrintMore
set_option linter.unusedVariables false
set_option linter.unusedSimpArgs false


/-- A frame's numbers. -/
structure Fr where
  k : Int
  l : Int
  s : Int
  a : Int
  b : Int
  y : Int
  deriving DecidableEq
def Fr.zero : Fr := ⟨0, 0, 0, 0, 0, 0⟩
def Fr.val (f : Fr) : Value := .agg #[.int .u8 f.k, .int .u8 f.l, .int .u16 f.s, .int .u8 f.a, .int .u8 f.b, .int .u32 f.y]
def Fr.sound (f : Fr) : Bool := Own.sound f.k f.l f.a f.b f.y
def Fr.wf (f : Fr) : Prop := (0 ≤ f.k ∧ f.k ≤ 255) ∧ (0 ≤ f.l ∧ f.l ≤ 255) ∧ (0 ≤ f.s ∧ f.s ≤ 65535) ∧ (0 ≤ f.a ∧ f.a ≤ 255) ∧ (0 ≤ f.b ∧ f.b ≤ 255) ∧ (0 ≤ f.y ∧ f.y ≤ 4294967295)
def Fr.bytes (f : Fr) : List Int := Own.enc f.k f.l f.s f.a f.b f.y
/-- The frame in a block of the call's own. -/
def At (W : World) (g : Nat) (f : Fr) : Prop := Box W g f.k f.l f.s f.a f.b f.y

theorem or_byte (n c : Int) (n0 : 0 ≤ n) (n1 : n < 16777216) (c0 : 0 ≤ c) (c1 : c ≤ 255) : bits .or .u32 (n * 256) c = n * 256 + c := by
  rw [u32_or _ _ (by omega) (by omega) (by omega) (by omega)]
  have e : (n * 256).toNat = 256 * n.toNat := by omega
  rw [e, show (256 : Nat) = 2 ^ 8 from rfl, ← Nat.two_pow_add_eq_or_of_lt (by omega)]
  omega
theorem kdc {w : World} {A : Option Addr} {n : Nat} {l : List Int} (h : ReadsInt w .u8 A n l) : (Kd.int .u8).C w A n l :=
  ⟨h.1, h.2.1, fun hn => by
    obtain ⟨ad, e, hc⟩ := h.2.2 hn
    refine ⟨ad, e, fun j p hj => ⟨[.int .u8 p], rfl, rfl, fun i u hu => ?_⟩⟩
    have hj' := (List.getElem?_eq_some_iff.1 hj).1
    have hi := (List.getElem?_eq_some_iff.1 hu).1
    match i, hi with
    | 0, _ =>
      have := hc j (by rw [← h.1]; exact hj')
      rw [show j * (Kd.int .u8).sz + 0 = j by show j * 1 + 0 = j; omega, this, ← hu, List.getD_eq_getElem?_getD, hj]
      rfl⟩
theorem read2 (ad : Addr) (c : Nat) (x y : Int) (w : World) (hr : ReadsInt w .u8 (some ad) 2 [x, y]) (hc : 2 ≤ c) (x0 : 0 ≤ x) (x1 : x ≤ 255) (y0 : 0 ≤ y) (y1 : y ≤ 255) :
    Calls Try.prog 25 #[.slice (some ad) 2 c] w fun e w' => e = .returned (.int .u32 (x * 256 + y)) ∧ Below w.heap.size w w' := by
  have hf : wire_read.f 3 [x, y] = some (x * 256 + y) := by
    have o1 := or_byte 0 x (by omega) (by omega) x0 x1
    have o2 := or_byte x y x0 (by omega) y0 y1
    simp [wire_read.f, wire_read.l0, rd, wrap64, Int.emod_eq_of_lt x0 (by omega : x < 4294967296), Int.emod_eq_of_lt y0 (by omega : y < 4294967296), Int.emod_eq_of_lt (by omega : 0 ≤ x * 256) (by omega : x * 256 < 4294967296)] at o1 o2 ⊢
    rw [o1, Int.emod_eq_of_lt (by omega : 0 ≤ x * 256) (by omega : x * 256 < 4294967296)]
    exact o2
  refine (wire_read.calls 3 (some ad) c [x, y] _ w (kdc hr) hc hf).mono ?_
  rintro e w' ⟨rfl, hd⟩
  exact ⟨rfl, hd.below⟩
theorem read4 (ad : Addr) (c : Nat) (x y z u : Int) (w : World) (hr : ReadsInt w .u8 (some ad) 4 [x, y, z, u]) (hc : 4 ≤ c) (x0 : 0 ≤ x) (x1 : x ≤ 255) (y0 : 0 ≤ y) (y1 : y ≤ 255) (z0 : 0 ≤ z) (z1 : z ≤ 255) (u0 : 0 ≤ u) (u1 : u ≤ 255) :
    Calls Try.prog 25 #[.slice (some ad) 4 c] w fun e w' => e = .returned (.int .u32 (x * 16777216 + y * 65536 + z * 256 + u)) ∧ Below w.heap.size w w' := by
  have hf : wire_read.f 5 [x, y, z, u] = some (x * 16777216 + y * 65536 + z * 256 + u) := by
    have o1 := or_byte 0 x (by omega) (by omega) x0 x1
    have o2 := or_byte x y x0 (by omega) y0 y1
    have o3 := or_byte (x * 256 + y) z (by omega) (by omega) z0 z1
    have o4 := or_byte ((x * 256 + y) * 256 + z) u (by omega) (by omega) u0 u1
    simp [wire_read.f, wire_read.l0, rd, wrap64, Int.emod_eq_of_lt x0 (by omega : x < 4294967296), Int.emod_eq_of_lt y0 (by omega : y < 4294967296), Int.emod_eq_of_lt z0 (by omega : z < 4294967296), Int.emod_eq_of_lt u0 (by omega : u < 4294967296)] at o1 o2 o3 o4 ⊢
    rw [o1, Int.emod_eq_of_lt (by omega : 0 ≤ x * 256) (by omega : x * 256 < 4294967296), o2, Int.emod_eq_of_lt (by omega : 0 ≤ (x * 256 + y) * 256) (by omega : (x * 256 + y) * 256 < 4294967296), o3, Int.emod_eq_of_lt (by omega : 0 ≤ ((x * 256 + y) * 256 + z) * 256) (by omega : ((x * 256 + y) * 256 + z) * 256 < 4294967296), o4]
    omega
  refine (wire_read.calls 5 (some ad) c [x, y, z, u] _ w (kdc hr) hc hf).mono ?_
  rintro e w' ⟨rfl, hd⟩
  exact ⟨rfl, hd.below⟩

/-- Make's frame. -/
def mk (kind lane seq src dst body : Int) : Fr := if kind % 3 = 0 then ⟨1, lane % 3, seq, src % 6, (src % 6 + 1 + dst % 5) % 6, body⟩ else ⟨1 + kind % 3, lane % 3, seq, 0, 0, 0⟩
set_option maxHeartbeats 4000000 in
set_option maxRecDepth 100000 in
theorem make_data (k l s a b y : Int) (w : World) (k0 : 0 ≤ k) (k1 : k ≤ 255) (l0 : 0 ≤ l) (l1 : l ≤ 255) (s0 : 0 ≤ s) (s1 : s ≤ 65535) (a0 : 0 ≤ a) (a1 : a ≤ 255) (b0 : 0 ≤ b) (b1 : b ≤ 255) (y0 : 0 ≤ y) (y1 : y ≤ 4294967295) (hk : k % 3 = 0) :
    Calls Try.prog 13 #[.int .u8 k, .int .u8 l, .int .u16 s, .int .u8 a, .int .u8 b, .int .u32 y] w fun e w' => e = .returned (mk k l s a b y).val ∧ Below w.heap.size w w' := by
  have EM := Aside0.mk (show mk k l s a b y = ⟨1, l % 3, s, a % 6, (a % 6 + 1 + b % 5) % 6, y⟩ by unfold mk; rw [if_pos hk])
  go_enter Try.func13, Try.ntmps13
  go_wp2_with fail
  refine bodyPost_ret (results_cell_row rfl _ _ w.heap.size 25 _ (0, 0) _ (by rfl) (blk_below (blk_new _ _) (below_alloc (Below.refl _ _) _)) Try.underlying25 rfl (by kernel_rfl)) rfl ?_
  exact ⟨by rw [EM.out]; rfl, below_alloc (below_alloc (Below.refl _ _) _) _⟩
set_option maxHeartbeats 4000000 in
set_option maxRecDepth 100000 in
theorem make_else (k l s a b y : Int) (w : World) (k0 : 0 ≤ k) (k1 : k ≤ 255) (l0 : 0 ≤ l) (l1 : l ≤ 255) (s0 : 0 ≤ s) (s1 : s ≤ 65535) (a0 : 0 ≤ a) (a1 : a ≤ 255) (b0 : 0 ≤ b) (b1 : b ≤ 255) (y0 : 0 ≤ y) (y1 : y ≤ 4294967295) (hk : ¬ k % 3 = 0) :
    Calls Try.prog 13 #[.int .u8 k, .int .u8 l, .int .u16 s, .int .u8 a, .int .u8 b, .int .u32 y] w fun e w' => e = .returned (mk k l s a b y).val ∧ Below w.heap.size w w' := by
  have EM := Aside0.mk (show mk k l s a b y = ⟨1 + k % 3, l % 3, s, 0, 0, 0⟩ by unfold mk; rw [if_neg hk])
  go_enter Try.func13, Try.ntmps13
  go_wp2_with fail
  refine bodyPost_ret (results_cell_row rfl _ _ w.heap.size 25 _ (0, 0) _ (by rfl) (blk_below (blk_new _ _) (below_alloc (Below.refl _ _) _)) Try.underlying25 rfl (by kernel_rfl)) rfl ?_
  exact ⟨by rw [EM.out]; rfl, below_alloc (below_alloc (Below.refl _ _) _) _⟩
theorem make_calls (k l s a b y : Int) (w : World) (k0 : 0 ≤ k) (k1 : k ≤ 255) (l0 : 0 ≤ l) (l1 : l ≤ 255) (s0 : 0 ≤ s) (s1 : s ≤ 65535) (a0 : 0 ≤ a) (a1 : a ≤ 255) (b0 : 0 ≤ b) (b1 : b ≤ 255) (y0 : 0 ≤ y) (y1 : y ≤ 4294967295) :
    Calls Try.prog 13 #[.int .u8 k, .int .u8 l, .int .u16 s, .int .u8 a, .int .u8 b, .int .u32 y] w fun e w' => e = .returned (mk k l s a b y).val ∧ Below w.heap.size w w' := by
  by_cases hk : k % 3 = 0
  · exact make_data k l s a b y w k0 k1 l0 l1 s0 s1 a0 a1 b0 b1 y0 y1 hk
  · exact make_else k l s a b y w k0 k1 l0 l1 s0 s1 a0 a1 b0 b1 y0 y1 hk

theorem ret_cell_tmp {P : Program} {fn : Func} {p u : Tmp} {ty : TypeId} (h : fn.results = #[.cell p ty, .tmp u]) (tmps : Array Value) (w : World) (g : Nat) (t : TypeId) (cs : Array Value) (fr : Nat × Nat) (d : TypeDesc)
    (hp : tmps.getD p undef = .pointer (some ⟨g, 0, none⟩)) (hg : w.heap[g]? = some (.cells cs t fr))
    (hu : P.underlying ty = some d) (hd : (match d with | .struct _ | .array _ _ => true | _ => false) = true) (hi : (P.info? ty).map (·.size) = some cs.size) :
    (results fn tmps).run P w = .ok (.tuple #[.agg cs, tmps.getD u undef]) w := by
  rw [results_cell_tmp h, hp]
  simp [asAddr, Result.andThen, run_loadVar_row w g t ty cs fr d hg hu hd hi]
end Go.Proofs.Ytamaemlhnkabcaa.Own
