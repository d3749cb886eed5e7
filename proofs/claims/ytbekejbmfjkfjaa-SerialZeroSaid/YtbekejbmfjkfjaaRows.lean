/-
  No cell of these rows narrows 'for every input' (looked for: loops, veiled, ifaces, maps, wideKeys, modest, calm, conditions, laid).
  DERIVED. THE GIVEN ROWS OF THIS SEAT. 9 by the template 'for every input the law returns true; each argument reads behind the call as it read before'; 0 by the template 'total and deterministic' (their statements: YtbekejbmfjkfjaaTotals.lean).
  GIVEN WITH THE SEED: the statements are not yours to turn. If you find one false, say at which input.
  Laid BY PROGRAM, IN A SANDBOX (cutbox-rows.mjs): the forced cells as the released guide's own fill.sh prints them over the translation 05a980f3a260a4ad… (all of the seat's roots in one cut). By AI agents, Wed Nov 11 2026. No macro, syntax, notation, axiom, sorry.
-/
import Derived.Test.YtbekejbmfjkfjaaChecked
import GoSem.Claim
import GoSem.ClaimJoined
import GoSem.ClaimMapViews
import Derived.JoinedTies
import Derived.KernelRfl
namespace Go.Proofs.Ytbekejbmfjkfjaa
/- THE CELL 'sum', in the pinned program and in every row, IS THE sha256 OF THE DUMP (.gsa) THAT YtbekejbmfjkfjaaProg.lean LOADS. Nothing in Lean hashes anything: it is a label: what it is worth is what the hold of that sum in a sandbox is worth. -/
noncomputable def Try.pinned : Pinned := { name := "ytbekejbmfjkfjaa", sum := "05a980f3a260a4ad7b61996bba44b639e018fe4f6632a577331cd6ac2463c8a0", checked := Try.checked }
namespace Rows
def none {H : Type} : Left H := { results := [], args := [] }

/-- 'shunterlaw01.SerialBack': WHATEVER THE INPUT: true; the input reads as it did. -/
def serialBackSpec : ChangeSpec := { name := "serialBack", fn := fun _ => fun
  | [d1, d2] => { results := [.lit (.bool true)], args := [d1, d2] }
  | _ => none }
def serialBackRow : OpenClaim := { program := "ytbekejbmfjkfjaa", sum := "05a980f3a260a4ad7b61996bba44b639e018fe4f6632a577331cd6ac2463c8a0", func := "shunter/shunterlaw01.SerialBack", spec := "serialBack", apart := false }
def SerialBackSaid : Prop := serialBackRow.holds Try.pinned (OpenSpec.ofChange serialBackSpec)

/-- ITS FALSE NEIGHBOUR: 'it returns false'. Refute it at one input. -/
def serialBackWrong : ChangeSpec := { name := "serialBack", fn := fun _ => fun
  | [d1, d2] => { results := [.lit (.bool false)], args := [d1, d2] }
  | _ => none }
def SerialBackWrongFalsely : Prop := serialBackRow.holds Try.pinned (OpenSpec.ofChange serialBackWrong)

/-- 'shunterlaw01.SerialZero': WHATEVER THE INPUT: true; the input reads as it did. -/
def serialZeroSpec : ChangeSpec := { name := "serialZero", fn := fun _ => fun
  | [d1, d2] => { results := [.lit (.bool true)], args := [d1, d2] }
  | _ => none }
def serialZeroRow : OpenClaim := { program := "ytbekejbmfjkfjaa", sum := "05a980f3a260a4ad7b61996bba44b639e018fe4f6632a577331cd6ac2463c8a0", func := "shunter/shunterlaw01.SerialZero", spec := "serialZero", apart := false }
def SerialZeroSaid : Prop := serialZeroRow.holds Try.pinned (OpenSpec.ofChange serialZeroSpec)

/-- ITS FALSE NEIGHBOUR: 'it returns false'. Refute it at one input. -/
def serialZeroWrong : ChangeSpec := { name := "serialZero", fn := fun _ => fun
  | [d1, d2] => { results := [.lit (.bool false)], args := [d1, d2] }
  | _ => none }
def SerialZeroWrongFalsely : Prop := serialZeroRow.holds Try.pinned (OpenSpec.ofChange serialZeroWrong)

/-- 'shunterlaw01.SerialLess': WHATEVER THE INPUT: true; the input reads as it did. -/
def serialLessSpec : ChangeSpec := { name := "serialLess", fn := fun _ => fun
  | [d1, d2] => { results := [.lit (.bool true)], args := [d1, d2] }
  | _ => none }
def serialLessRow : OpenClaim := { program := "ytbekejbmfjkfjaa", sum := "05a980f3a260a4ad7b61996bba44b639e018fe4f6632a577331cd6ac2463c8a0", func := "shunter/shunterlaw01.SerialLess", spec := "serialLess", apart := false }
def SerialLessSaid : Prop := serialLessRow.holds Try.pinned (OpenSpec.ofChange serialLessSpec)

/-- ITS FALSE NEIGHBOUR: 'it returns false'. Refute it at one input. -/
def serialLessWrong : ChangeSpec := { name := "serialLess", fn := fun _ => fun
  | [d1, d2] => { results := [.lit (.bool false)], args := [d1, d2] }
  | _ => none }
def SerialLessWrongFalsely : Prop := serialLessRow.holds Try.pinned (OpenSpec.ofChange serialLessWrong)

/-- 'shunterlaw01.SerialWidens': WHATEVER THE INPUT: true; the input reads as it did. -/
def serialWidensSpec : ChangeSpec := { name := "serialWidens", fn := fun _ => fun
  | [d1, d2] => { results := [.lit (.bool true)], args := [d1, d2] }
  | _ => none }
def serialWidensRow : OpenClaim := { program := "ytbekejbmfjkfjaa", sum := "05a980f3a260a4ad7b61996bba44b639e018fe4f6632a577331cd6ac2463c8a0", func := "shunter/shunterlaw01.SerialWidens", spec := "serialWidens", apart := false }
def SerialWidensSaid : Prop := serialWidensRow.holds Try.pinned (OpenSpec.ofChange serialWidensSpec)

/-- ITS FALSE NEIGHBOUR: 'it returns false'. Refute it at one input. -/
def serialWidensWrong : ChangeSpec := { name := "serialWidens", fn := fun _ => fun
  | [d1, d2] => { results := [.lit (.bool false)], args := [d1, d2] }
  | _ => none }
def SerialWidensWrongFalsely : Prop := serialWidensRow.holds Try.pinned (OpenSpec.ofChange serialWidensWrong)

/-- 'shunterlaw01.SerialNear': WHATEVER THE INPUT: true; the input reads as it did. -/
def serialNearSpec : ChangeSpec := { name := "serialNear", fn := fun _ => fun
  | [d1, d2] => { results := [.lit (.bool true)], args := [d1, d2] }
  | _ => none }
def serialNearRow : OpenClaim := { program := "ytbekejbmfjkfjaa", sum := "05a980f3a260a4ad7b61996bba44b639e018fe4f6632a577331cd6ac2463c8a0", func := "shunter/shunterlaw01.SerialNear", spec := "serialNear", apart := false }
def SerialNearSaid : Prop := serialNearRow.holds Try.pinned (OpenSpec.ofChange serialNearSpec)

/-- ITS FALSE NEIGHBOUR: 'it returns false'. Refute it at one input. -/
def serialNearWrong : ChangeSpec := { name := "serialNear", fn := fun _ => fun
  | [d1, d2] => { results := [.lit (.bool false)], args := [d1, d2] }
  | _ => none }
def SerialNearWrongFalsely : Prop := serialNearRow.holds Try.pinned (OpenSpec.ofChange serialNearWrong)

/-- 'shunterlaw01.SerialOne': WHATEVER THE INPUT: true; the input reads as it did. -/
def serialOneSpec : ChangeSpec := { name := "serialOne", fn := fun _ => fun
  | [d1, d2] => { results := [.lit (.bool true)], args := [d1, d2] }
  | _ => none }
def serialOneRow : OpenClaim := { program := "ytbekejbmfjkfjaa", sum := "05a980f3a260a4ad7b61996bba44b639e018fe4f6632a577331cd6ac2463c8a0", func := "shunter/shunterlaw01.SerialOne", spec := "serialOne", apart := false }
def SerialOneSaid : Prop := serialOneRow.holds Try.pinned (OpenSpec.ofChange serialOneSpec)

/-- ITS FALSE NEIGHBOUR: 'it returns false'. Refute it at one input. -/
def serialOneWrong : ChangeSpec := { name := "serialOne", fn := fun _ => fun
  | [d1, d2] => { results := [.lit (.bool false)], args := [d1, d2] }
  | _ => none }
def SerialOneWrongFalsely : Prop := serialOneRow.holds Try.pinned (OpenSpec.ofChange serialOneWrong)

/-- 'shunterlaw01.SerialSteps': WHATEVER THE INPUT: true; the input reads as it did. -/
def serialStepsSpec : ChangeSpec := { name := "serialSteps", fn := fun _ => fun
  | [d1, d2] => { results := [.lit (.bool true)], args := [d1, d2] }
  | _ => none }
def serialStepsRow : OpenClaim := { program := "ytbekejbmfjkfjaa", sum := "05a980f3a260a4ad7b61996bba44b639e018fe4f6632a577331cd6ac2463c8a0", func := "shunter/shunterlaw01.SerialSteps", spec := "serialSteps", apart := false }
def SerialStepsSaid : Prop := serialStepsRow.holds Try.pinned (OpenSpec.ofChange serialStepsSpec)

/-- ITS FALSE NEIGHBOUR: 'it returns false'. Refute it at one input. -/
def serialStepsWrong : ChangeSpec := { name := "serialSteps", fn := fun _ => fun
  | [d1, d2] => { results := [.lit (.bool false)], args := [d1, d2] }
  | _ => none }
def SerialStepsWrongFalsely : Prop := serialStepsRow.holds Try.pinned (OpenSpec.ofChange serialStepsWrong)

/-- 'shunterlaw01.SerialRound': WHATEVER THE INPUT: true; the input reads as it did. -/
def serialRoundSpec : ChangeSpec := { name := "serialRound", fn := fun _ => fun
  | [d1, d2] => { results := [.lit (.bool true)], args := [d1, d2] }
  | _ => none }
def serialRoundRow : OpenClaim := { program := "ytbekejbmfjkfjaa", sum := "05a980f3a260a4ad7b61996bba44b639e018fe4f6632a577331cd6ac2463c8a0", func := "shunter/shunterlaw01.SerialRound", spec := "serialRound", apart := false }
def SerialRoundSaid : Prop := serialRoundRow.holds Try.pinned (OpenSpec.ofChange serialRoundSpec)

/-- ITS FALSE NEIGHBOUR: 'it returns false'. Refute it at one input. -/
def serialRoundWrong : ChangeSpec := { name := "serialRound", fn := fun _ => fun
  | [d1, d2] => { results := [.lit (.bool false)], args := [d1, d2] }
  | _ => none }
def SerialRoundWrongFalsely : Prop := serialRoundRow.holds Try.pinned (OpenSpec.ofChange serialRoundWrong)

/-- 'shunterlaw01.SerialHalf': WHATEVER THE INPUT: true; the input reads as it did. -/
def serialHalfSpec : ChangeSpec := { name := "serialHalf", fn := fun _ => fun
  | [d] => { results := [.lit (.bool true)], args := [d] }
  | _ => none }
def serialHalfRow : OpenClaim := { program := "ytbekejbmfjkfjaa", sum := "05a980f3a260a4ad7b61996bba44b639e018fe4f6632a577331cd6ac2463c8a0", func := "shunter/shunterlaw01.SerialHalf", spec := "serialHalf", apart := false }
def SerialHalfSaid : Prop := serialHalfRow.holds Try.pinned (OpenSpec.ofChange serialHalfSpec)

/-- ITS FALSE NEIGHBOUR: 'it returns false'. Refute it at one input. -/
def serialHalfWrong : ChangeSpec := { name := "serialHalf", fn := fun _ => fun
  | [d] => { results := [.lit (.bool false)], args := [d] }
  | _ => none }
def SerialHalfWrongFalsely : Prop := serialHalfRow.holds Try.pinned (OpenSpec.ofChange serialHalfWrong)

/- THE SECOND FORM. 'bulk': how many values and letters a reading holds, each counted each time it is reached (what is shared counts as often as it is met; a slice's spare places count too). A statement '..UptoSaid' is the law's where the arguments, and the package variables that the reading takes, are together of bulk at most 1048576: NARROWER than '..Said'. Prove '..Said' where nothing that the law and all that it calls make is longer than what came in: it says more and counts as full. Else prove '..UptoSaid'. A law counts once. -/
mutual
def uptoBulk {H : Type} : DataW H → Nat
  | .lit (.string bytes) => bytes.length + 1
  | .lit _ => 1
  | .nil => 1
  | .ptr d => uptoBulk d + 1
  | .slice elems spare => uptoBulkAll elems + uptoBulkAll spare + 1
  | .agg parts => uptoBulkAll parts + 1
  | .iface _ d => uptoBulk d + 1
  | .map entries => uptoBulkEntries entries + 1
  | .held _ => 1
def uptoBulkAll {H : Type} : List (DataW H) → Nat
  | [] => 0
  | d :: r => uptoBulk d + uptoBulkAll r
def uptoBulkEntries {H : Type} : List (Lit × DataW H) → Nat
  | [] => 0
  | x :: r => uptoBulkEntry x + uptoBulkEntries r
def uptoBulkEntry {H : Type} : Lit × DataW H → Nat
  | (.string bytes, d) => bytes.length + uptoBulk d + 1
  | (_, d) => uptoBulk d + 1
 end
def uptoSmall : (H : Type) → List (DataW H) → Bool := fun _ ds => decide (uptoBulkAll ds ≤ 1048576)
def OpenSpec.upto (s : _root_.Go.ChangeSpec) : _root_.Go.OpenSpec := { _root_.Go.OpenSpec.ofChange s with cond := some uptoSmall }

/-- 'shunterlaw01.SerialBack', WHERE WHAT IT READS IS OF BULK AT MOST 1048576: true; the input reads as it did. -/
def serialBackUptoRow : OpenClaim := { program := "ytbekejbmfjkfjaa", sum := "05a980f3a260a4ad7b61996bba44b639e018fe4f6632a577331cd6ac2463c8a0", func := "shunter/shunterlaw01.SerialBack", spec := "serialBack", apart := false, narrowed := true }
def SerialBackUptoSaid : Prop := serialBackUptoRow.holds Try.pinned (OpenSpec.upto serialBackSpec)

/-- 'shunterlaw01.SerialZero', WHERE WHAT IT READS IS OF BULK AT MOST 1048576: true; the input reads as it did. -/
def serialZeroUptoRow : OpenClaim := { program := "ytbekejbmfjkfjaa", sum := "05a980f3a260a4ad7b61996bba44b639e018fe4f6632a577331cd6ac2463c8a0", func := "shunter/shunterlaw01.SerialZero", spec := "serialZero", apart := false, narrowed := true }
def SerialZeroUptoSaid : Prop := serialZeroUptoRow.holds Try.pinned (OpenSpec.upto serialZeroSpec)

/-- 'shunterlaw01.SerialLess', WHERE WHAT IT READS IS OF BULK AT MOST 1048576: true; the input reads as it did. -/
def serialLessUptoRow : OpenClaim := { program := "ytbekejbmfjkfjaa", sum := "05a980f3a260a4ad7b61996bba44b639e018fe4f6632a577331cd6ac2463c8a0", func := "shunter/shunterlaw01.SerialLess", spec := "serialLess", apart := false, narrowed := true }
def SerialLessUptoSaid : Prop := serialLessUptoRow.holds Try.pinned (OpenSpec.upto serialLessSpec)

/-- 'shunterlaw01.SerialWidens', WHERE WHAT IT READS IS OF BULK AT MOST 1048576: true; the input reads as it did. -/
def serialWidensUptoRow : OpenClaim := { program := "ytbekejbmfjkfjaa", sum := "05a980f3a260a4ad7b61996bba44b639e018fe4f6632a577331cd6ac2463c8a0", func := "shunter/shunterlaw01.SerialWidens", spec := "serialWidens", apart := false, narrowed := true }
def SerialWidensUptoSaid : Prop := serialWidensUptoRow.holds Try.pinned (OpenSpec.upto serialWidensSpec)

/-- 'shunterlaw01.SerialNear', WHERE WHAT IT READS IS OF BULK AT MOST 1048576: true; the input reads as it did. -/
def serialNearUptoRow : OpenClaim := { program := "ytbekejbmfjkfjaa", sum := "05a980f3a260a4ad7b61996bba44b639e018fe4f6632a577331cd6ac2463c8a0", func := "shunter/shunterlaw01.SerialNear", spec := "serialNear", apart := false, narrowed := true }
def SerialNearUptoSaid : Prop := serialNearUptoRow.holds Try.pinned (OpenSpec.upto serialNearSpec)

/-- 'shunterlaw01.SerialOne', WHERE WHAT IT READS IS OF BULK AT MOST 1048576: true; the input reads as it did. -/
def serialOneUptoRow : OpenClaim := { program := "ytbekejbmfjkfjaa", sum := "05a980f3a260a4ad7b61996bba44b639e018fe4f6632a577331cd6ac2463c8a0", func := "shunter/shunterlaw01.SerialOne", spec := "serialOne", apart := false, narrowed := true }
def SerialOneUptoSaid : Prop := serialOneUptoRow.holds Try.pinned (OpenSpec.upto serialOneSpec)

/-- 'shunterlaw01.SerialSteps', WHERE WHAT IT READS IS OF BULK AT MOST 1048576: true; the input reads as it did. -/
def serialStepsUptoRow : OpenClaim := { program := "ytbekejbmfjkfjaa", sum := "05a980f3a260a4ad7b61996bba44b639e018fe4f6632a577331cd6ac2463c8a0", func := "shunter/shunterlaw01.SerialSteps", spec := "serialSteps", apart := false, narrowed := true }
def SerialStepsUptoSaid : Prop := serialStepsUptoRow.holds Try.pinned (OpenSpec.upto serialStepsSpec)

/-- 'shunterlaw01.SerialRound', WHERE WHAT IT READS IS OF BULK AT MOST 1048576: true; the input reads as it did. -/
def serialRoundUptoRow : OpenClaim := { program := "ytbekejbmfjkfjaa", sum := "05a980f3a260a4ad7b61996bba44b639e018fe4f6632a577331cd6ac2463c8a0", func := "shunter/shunterlaw01.SerialRound", spec := "serialRound", apart := false, narrowed := true }
def SerialRoundUptoSaid : Prop := serialRoundUptoRow.holds Try.pinned (OpenSpec.upto serialRoundSpec)

/-- 'shunterlaw01.SerialHalf', WHERE WHAT IT READS IS OF BULK AT MOST 1048576: true; the input reads as it did. -/
def serialHalfUptoRow : OpenClaim := { program := "ytbekejbmfjkfjaa", sum := "05a980f3a260a4ad7b61996bba44b639e018fe4f6632a577331cd6ac2463c8a0", func := "shunter/shunterlaw01.SerialHalf", spec := "serialHalf", apart := false, narrowed := true }
def SerialHalfUptoSaid : Prop := serialHalfUptoRow.holds Try.pinned (OpenSpec.upto serialHalfSpec)

end Rows
end Go.Proofs.Ytbekejbmfjkfjaa
