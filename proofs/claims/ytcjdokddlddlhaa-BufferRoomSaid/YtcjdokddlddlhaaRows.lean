/-
  No cell of these rows narrows 'for every input' (looked for: loops, veiled, ifaces, maps, wideKeys, modest, calm, conditions, laid).
  DERIVED. THE GIVEN ROWS OF THIS SEAT. 6 by the template 'for every input the law returns true; each argument reads behind the call as it read before'; 0 by the template 'total and deterministic' (their statements: YtcjdokddlddlhaaTotals.lean).
  GIVEN WITH THE SEED: the statements are not yours to turn. If you find one false, say at which input.
  Laid BY PROGRAM, IN A SANDBOX (cutbox-rows.mjs): the forced cells as the released guide's own fill.sh prints them over the translation 5d12817e45252204… (all of the seat's roots in one cut). By AI agents, Wed Nov 11 2026. No macro, syntax, notation, axiom, sorry.
-/
import Derived.Test.YtcjdokddlddlhaaChecked
import GoSem.Claim
import GoSem.ClaimJoined
import GoSem.ClaimMapViews
import Derived.JoinedTies
import Derived.KernelRfl
namespace Go.Proofs.Ytcjdokddlddlhaa
/- THE CELL 'sum', in the pinned program and in every row, IS THE sha256 OF THE DUMP (.gsa) THAT YtcjdokddlddlhaaProg.lean LOADS. Nothing in Lean hashes anything: it is a label: what it is worth is what the hold of that sum in a sandbox is worth. -/
noncomputable def Try.pinned : Pinned := { name := "ytcjdokddlddlhaa", sum := "5d12817e452522045e531a0948f60d6675c02958cd0ea44c0433e9e12db9845a", checked := Try.checked }
namespace Rows
def none {H : Type} : Left H := { results := [], args := [] }

/-- 'shunterlaw06.BufferHears': WHATEVER THE INPUT: true; the input reads as it did. -/
def bufferHearsSpec : ChangeSpec := { name := "bufferHears", fn := fun _ => fun
  | [d1, d2, d3] => { results := [.lit (.bool true)], args := [d1, d2, d3] }
  | _ => none }
def bufferHearsRow : OpenClaim := { program := "ytcjdokddlddlhaa", sum := "5d12817e452522045e531a0948f60d6675c02958cd0ea44c0433e9e12db9845a", func := "shunter/shunterlaw06.BufferHears", spec := "bufferHears", apart := false }
def BufferHearsSaid : Prop := bufferHearsRow.holds Try.pinned (OpenSpec.ofChange bufferHearsSpec)

/-- ITS FALSE NEIGHBOUR: 'it returns false'. Refute it at one input. -/
def bufferHearsWrong : ChangeSpec := { name := "bufferHears", fn := fun _ => fun
  | [d1, d2, d3] => { results := [.lit (.bool false)], args := [d1, d2, d3] }
  | _ => none }
def BufferHearsWrongFalsely : Prop := bufferHearsRow.holds Try.pinned (OpenSpec.ofChange bufferHearsWrong)

/-- 'shunterlaw06.BufferNew': WHATEVER THE INPUT: true; the input reads as it did. -/
def bufferNewSpec : ChangeSpec := { name := "bufferNew", fn := fun _ => fun
  | [d1, d2] => { results := [.lit (.bool true)], args := [d1, d2] }
  | _ => none }
def bufferNewRow : OpenClaim := { program := "ytcjdokddlddlhaa", sum := "5d12817e452522045e531a0948f60d6675c02958cd0ea44c0433e9e12db9845a", func := "shunter/shunterlaw06.BufferNew", spec := "bufferNew", apart := false }
def BufferNewSaid : Prop := bufferNewRow.holds Try.pinned (OpenSpec.ofChange bufferNewSpec)

/-- ITS FALSE NEIGHBOUR: 'it returns false'. Refute it at one input. -/
def bufferNewWrong : ChangeSpec := { name := "bufferNew", fn := fun _ => fun
  | [d1, d2] => { results := [.lit (.bool false)], args := [d1, d2] }
  | _ => none }
def BufferNewWrongFalsely : Prop := bufferNewRow.holds Try.pinned (OpenSpec.ofChange bufferNewWrong)

/-- 'shunterlaw06.BufferFills': WHATEVER THE INPUT: true; the input reads as it did. -/
def bufferFillsSpec : ChangeSpec := { name := "bufferFills", fn := fun _ => fun
  | [d1, d2, d3] => { results := [.lit (.bool true)], args := [d1, d2, d3] }
  | _ => none }
def bufferFillsRow : OpenClaim := { program := "ytcjdokddlddlhaa", sum := "5d12817e452522045e531a0948f60d6675c02958cd0ea44c0433e9e12db9845a", func := "shunter/shunterlaw06.BufferFills", spec := "bufferFills", apart := false }
def BufferFillsSaid : Prop := bufferFillsRow.holds Try.pinned (OpenSpec.ofChange bufferFillsSpec)

/-- ITS FALSE NEIGHBOUR: 'it returns false'. Refute it at one input. -/
def bufferFillsWrong : ChangeSpec := { name := "bufferFills", fn := fun _ => fun
  | [d1, d2, d3] => { results := [.lit (.bool false)], args := [d1, d2, d3] }
  | _ => none }
def BufferFillsWrongFalsely : Prop := bufferFillsRow.holds Try.pinned (OpenSpec.ofChange bufferFillsWrong)

/-- 'shunterlaw06.BufferBounds': WHATEVER THE INPUT: true; the input reads as it did. -/
def bufferBoundsSpec : ChangeSpec := { name := "bufferBounds", fn := fun _ => fun
  | [d1, d2, d3] => { results := [.lit (.bool true)], args := [d1, d2, d3] }
  | _ => none }
def bufferBoundsRow : OpenClaim := { program := "ytcjdokddlddlhaa", sum := "5d12817e452522045e531a0948f60d6675c02958cd0ea44c0433e9e12db9845a", func := "shunter/shunterlaw06.BufferBounds", spec := "bufferBounds", apart := false }
def BufferBoundsSaid : Prop := bufferBoundsRow.holds Try.pinned (OpenSpec.ofChange bufferBoundsSpec)

/-- ITS FALSE NEIGHBOUR: 'it returns false'. Refute it at one input. -/
def bufferBoundsWrong : ChangeSpec := { name := "bufferBounds", fn := fun _ => fun
  | [d1, d2, d3] => { results := [.lit (.bool false)], args := [d1, d2, d3] }
  | _ => none }
def BufferBoundsWrongFalsely : Prop := bufferBoundsRow.holds Try.pinned (OpenSpec.ofChange bufferBoundsWrong)

/-- 'shunterlaw06.BufferOnce': WHATEVER THE INPUT: true; the input reads as it did. -/
def bufferOnceSpec : ChangeSpec := { name := "bufferOnce", fn := fun _ => fun
  | [d1, d2, d3] => { results := [.lit (.bool true)], args := [d1, d2, d3] }
  | _ => none }
def bufferOnceRow : OpenClaim := { program := "ytcjdokddlddlhaa", sum := "5d12817e452522045e531a0948f60d6675c02958cd0ea44c0433e9e12db9845a", func := "shunter/shunterlaw06.BufferOnce", spec := "bufferOnce", apart := false }
def BufferOnceSaid : Prop := bufferOnceRow.holds Try.pinned (OpenSpec.ofChange bufferOnceSpec)

/-- ITS FALSE NEIGHBOUR: 'it returns false'. Refute it at one input. -/
def bufferOnceWrong : ChangeSpec := { name := "bufferOnce", fn := fun _ => fun
  | [d1, d2, d3] => { results := [.lit (.bool false)], args := [d1, d2, d3] }
  | _ => none }
def BufferOnceWrongFalsely : Prop := bufferOnceRow.holds Try.pinned (OpenSpec.ofChange bufferOnceWrong)

/-- 'shunterlaw06.BufferRoom': WHATEVER THE INPUT: true; the input reads as it did. -/
def bufferRoomSpec : ChangeSpec := { name := "bufferRoom", fn := fun _ => fun
  | [d1, d2, d3, d4] => { results := [.lit (.bool true)], args := [d1, d2, d3, d4] }
  | _ => none }
def bufferRoomRow : OpenClaim := { program := "ytcjdokddlddlhaa", sum := "5d12817e452522045e531a0948f60d6675c02958cd0ea44c0433e9e12db9845a", func := "shunter/shunterlaw06.BufferRoom", spec := "bufferRoom", apart := false }
def BufferRoomSaid : Prop := bufferRoomRow.holds Try.pinned (OpenSpec.ofChange bufferRoomSpec)

/-- ITS FALSE NEIGHBOUR: 'it returns false'. Refute it at one input. -/
def bufferRoomWrong : ChangeSpec := { name := "bufferRoom", fn := fun _ => fun
  | [d1, d2, d3, d4] => { results := [.lit (.bool false)], args := [d1, d2, d3, d4] }
  | _ => none }
def BufferRoomWrongFalsely : Prop := bufferRoomRow.holds Try.pinned (OpenSpec.ofChange bufferRoomWrong)

/- THE SECOND FORM. 'bulk': how many values and letters a reading holds, each counted each time it is reached (what is shared counts as often as it is met; a slice's spare places count too). A statement '..UptoSaid' is the law's where the arguments, and the package variables that the reading takes, are together of bulk at most 1048576: NARROWER than '..Said'. Prove '..Said' where nothing that the law and all that it calls make is longer than what came in: it says more and counts as full. Else prove '..UptoSaid'. A law counts once. -/
mutual
def uptoBulk {H : Type} : DataW H → Nat
  | .lit (.string bytes) => bytes.length + 1
  | .lit _ => 1
  | .nil => 1
  | .ptr d => uptoBulk d + 1
  | .slice elems spare => uptoBulkAll elems + uptoBulkAll spare + 1
  | .agg parts => uptoBulkAll parts + 1
  | .iface _ d => uptoBulk d + 1
  | .map entries => uptoBulkEntries entries + 1
  | .held _ => 1
def uptoBulkAll {H : Type} : List (DataW H) → Nat
  | [] => 0
  | d :: r => uptoBulk d + uptoBulkAll r
def uptoBulkEntries {H : Type} : List (Lit × DataW H) → Nat
  | [] => 0
  | x :: r => uptoBulkEntry x + uptoBulkEntries r
def uptoBulkEntry {H : Type} : Lit × DataW H → Nat
  | (.string bytes, d) => bytes.length + uptoBulk d + 1
  | (_, d) => uptoBulk d + 1
 end
def uptoSmall : (H : Type) → List (DataW H) → Bool := fun _ ds => decide (uptoBulkAll ds ≤ 1048576)
def OpenSpec.upto (s : _root_.Go.ChangeSpec) : _root_.Go.OpenSpec := { _root_.Go.OpenSpec.ofChange s with cond := some uptoSmall }

/-- 'shunterlaw06.BufferHears', WHERE WHAT IT READS IS OF BULK AT MOST 1048576: true; the input reads as it did. -/
def bufferHearsUptoRow : OpenClaim := { program := "ytcjdokddlddlhaa", sum := "5d12817e452522045e531a0948f60d6675c02958cd0ea44c0433e9e12db9845a", func := "shunter/shunterlaw06.BufferHears", spec := "bufferHears", apart := false, narrowed := true }
def BufferHearsUptoSaid : Prop := bufferHearsUptoRow.holds Try.pinned (OpenSpec.upto bufferHearsSpec)

/-- 'shunterlaw06.BufferNew', WHERE WHAT IT READS IS OF BULK AT MOST 1048576: true; the input reads as it did. -/
def bufferNewUptoRow : OpenClaim := { program := "ytcjdokddlddlhaa", sum := "5d12817e452522045e531a0948f60d6675c02958cd0ea44c0433e9e12db9845a", func := "shunter/shunterlaw06.BufferNew", spec := "bufferNew", apart := false, narrowed := true }
def BufferNewUptoSaid : Prop := bufferNewUptoRow.holds Try.pinned (OpenSpec.upto bufferNewSpec)

/-- 'shunterlaw06.BufferFills', WHERE WHAT IT READS IS OF BULK AT MOST 1048576: true; the input reads as it did. -/
def bufferFillsUptoRow : OpenClaim := { program := "ytcjdokddlddlhaa", sum := "5d12817e452522045e531a0948f60d6675c02958cd0ea44c0433e9e12db9845a", func := "shunter/shunterlaw06.BufferFills", spec := "bufferFills", apart := false, narrowed := true }
def BufferFillsUptoSaid : Prop := bufferFillsUptoRow.holds Try.pinned (OpenSpec.upto bufferFillsSpec)

/-- 'shunterlaw06.BufferBounds', WHERE WHAT IT READS IS OF BULK AT MOST 1048576: true; the input reads as it did. -/
def bufferBoundsUptoRow : OpenClaim := { program := "ytcjdokddlddlhaa", sum := "5d12817e452522045e531a0948f60d6675c02958cd0ea44c0433e9e12db9845a", func := "shunter/shunterlaw06.BufferBounds", spec := "bufferBounds", apart := false, narrowed := true }
def BufferBoundsUptoSaid : Prop := bufferBoundsUptoRow.holds Try.pinned (OpenSpec.upto bufferBoundsSpec)

/-- 'shunterlaw06.BufferOnce', WHERE WHAT IT READS IS OF BULK AT MOST 1048576: true; the input reads as it did. -/
def bufferOnceUptoRow : OpenClaim := { program := "ytcjdokddlddlhaa", sum := "5d12817e452522045e531a0948f60d6675c02958cd0ea44c0433e9e12db9845a", func := "shunter/shunterlaw06.BufferOnce", spec := "bufferOnce", apart := false, narrowed := true }
def BufferOnceUptoSaid : Prop := bufferOnceUptoRow.holds Try.pinned (OpenSpec.upto bufferOnceSpec)

/-- 'shunterlaw06.BufferRoom', WHERE WHAT IT READS IS OF BULK AT MOST 1048576: true; the input reads as it did. -/
def bufferRoomUptoRow : OpenClaim := { program := "ytcjdokddlddlhaa", sum := "5d12817e452522045e531a0948f60d6675c02958cd0ea44c0433e9e12db9845a", func := "shunter/shunterlaw06.BufferRoom", spec := "bufferRoom", apart := false, narrowed := true }
def BufferRoomUptoSaid : Prop := bufferRoomUptoRow.holds Try.pinned (OpenSpec.upto bufferRoomSpec)

end Rows
end Go.Proofs.Ytcjdokddlddlhaa
