/-
  No cell of these rows narrows 'for every input' (looked for: loops, veiled, ifaces, maps, wideKeys, modest, calm, conditions, laid).
  DERIVED. THE GIVEN ROWS OF THIS SEAT. 8 by the template 'for every input the law returns true; each argument reads behind the call as it read before'; 0 by the template 'total and deterministic' (their statements: YtladjllencanlaaTotals.lean).
  GIVEN WITH THE SEED: the statements are not yours to turn. If you find one false, say at which input.
  Laid BY PROGRAM, IN A SANDBOX (cutbox-rows.mjs): the forced cells as the released guide's own fill.sh prints them over the translation 395d5f1144b60a50… (all of the seat's roots in one cut). By AI agents, Wed Nov 11 2026. No macro, syntax, notation, axiom, sorry.
-/
import Derived.Test.YtladjllencanlaaChecked
import GoSem.Claim
import GoSem.ClaimJoined
import GoSem.ClaimMapViews
import Derived.JoinedTies
import Derived.KernelRfl
namespace Go.Proofs.Ytladjllencanlaa
/- THE CELL 'sum', in the pinned program and in every row, IS THE sha256 OF THE DUMP (.gsa) THAT YtladjllencanlaaProg.lean LOADS. Nothing in Lean hashes anything: it is a label: what it is worth is what the hold of that sum in a sandbox is worth. -/
noncomputable def Try.pinned : Pinned := { name := "ytladjllencanlaa", sum := "395d5f1144b60a50b7676103bddfb67240e98e03976a0d2c6f339309217abf69", checked := Try.checked }
namespace Rows
def none {H : Type} : Left H := { results := [], args := [] }

/-- 'shunterlaw19.FlowOrder': WHATEVER THE INPUT: true; the input reads as it did. -/
def flowOrderSpec : ChangeSpec := { name := "flowOrder", fn := fun _ => fun
  | [d] => { results := [.lit (.bool true)], args := [d] }
  | _ => none }
def flowOrderRow : OpenClaim := { program := "ytladjllencanlaa", sum := "395d5f1144b60a50b7676103bddfb67240e98e03976a0d2c6f339309217abf69", func := "shunter/shunterlaw19.FlowOrder", spec := "flowOrder", unfollowed := true, recurses := true, apart := false }
def FlowOrderSaid : Prop := flowOrderRow.holds Try.pinned (OpenSpec.ofChange flowOrderSpec)

/-- ITS FALSE NEIGHBOUR: 'it returns false'. Refute it at one input. -/
def flowOrderWrong : ChangeSpec := { name := "flowOrder", fn := fun _ => fun
  | [d] => { results := [.lit (.bool false)], args := [d] }
  | _ => none }
def FlowOrderWrongFalsely : Prop := flowOrderRow.holds Try.pinned (OpenSpec.ofChange flowOrderWrong)

/-- 'shunterlaw19.FlowChain': WHATEVER THE INPUT: true; the input reads as it did. -/
def flowChainSpec : ChangeSpec := { name := "flowChain", fn := fun _ => fun
  | [d1, d2, d3] => { results := [.lit (.bool true)], args := [d1, d2, d3] }
  | _ => none }
def flowChainRow : OpenClaim := { program := "ytladjllencanlaa", sum := "395d5f1144b60a50b7676103bddfb67240e98e03976a0d2c6f339309217abf69", func := "shunter/shunterlaw19.FlowChain", spec := "flowChain", unfollowed := true, recurses := true, apart := false }
def FlowChainSaid : Prop := flowChainRow.holds Try.pinned (OpenSpec.ofChange flowChainSpec)

/-- ITS FALSE NEIGHBOUR: 'it returns false'. Refute it at one input. -/
def flowChainWrong : ChangeSpec := { name := "flowChain", fn := fun _ => fun
  | [d1, d2, d3] => { results := [.lit (.bool false)], args := [d1, d2, d3] }
  | _ => none }
def FlowChainWrongFalsely : Prop := flowChainRow.holds Try.pinned (OpenSpec.ofChange flowChainWrong)

/-- 'shunterlaw19.FlowOther': WHATEVER THE INPUT: true; the input reads as it did. -/
def flowOtherSpec : ChangeSpec := { name := "flowOther", fn := fun _ => fun
  | [d1, d2] => { results := [.lit (.bool true)], args := [d1, d2] }
  | _ => none }
def flowOtherRow : OpenClaim := { program := "ytladjllencanlaa", sum := "395d5f1144b60a50b7676103bddfb67240e98e03976a0d2c6f339309217abf69", func := "shunter/shunterlaw19.FlowOther", spec := "flowOther", unfollowed := true, recurses := true, apart := false }
def FlowOtherSaid : Prop := flowOtherRow.holds Try.pinned (OpenSpec.ofChange flowOtherSpec)

/-- ITS FALSE NEIGHBOUR: 'it returns false'. Refute it at one input. -/
def flowOtherWrong : ChangeSpec := { name := "flowOther", fn := fun _ => fun
  | [d1, d2] => { results := [.lit (.bool false)], args := [d1, d2] }
  | _ => none }
def FlowOtherWrongFalsely : Prop := flowOtherRow.holds Try.pinned (OpenSpec.ofChange flowOtherWrong)

/-- 'shunterlaw19.FlowTells': WHATEVER THE INPUT: true; the input reads as it did. -/
def flowTellsSpec : ChangeSpec := { name := "flowTells", fn := fun _ => fun
  | [d1, d2] => { results := [.lit (.bool true)], args := [d1, d2] }
  | _ => none }
def flowTellsRow : OpenClaim := { program := "ytladjllencanlaa", sum := "395d5f1144b60a50b7676103bddfb67240e98e03976a0d2c6f339309217abf69", func := "shunter/shunterlaw19.FlowTells", spec := "flowTells", unfollowed := true, recurses := true, apart := false }
def FlowTellsSaid : Prop := flowTellsRow.holds Try.pinned (OpenSpec.ofChange flowTellsSpec)

/-- ITS FALSE NEIGHBOUR: 'it returns false'. Refute it at one input. -/
def flowTellsWrong : ChangeSpec := { name := "flowTells", fn := fun _ => fun
  | [d1, d2] => { results := [.lit (.bool false)], args := [d1, d2] }
  | _ => none }
def FlowTellsWrongFalsely : Prop := flowTellsRow.holds Try.pinned (OpenSpec.ofChange flowTellsWrong)

/-- 'shunterlaw19.FlowSubs': WHATEVER THE INPUT: true; the input reads as it did. -/
def flowSubsSpec : ChangeSpec := { name := "flowSubs", fn := fun _ => fun
  | [d1, d2] => { results := [.lit (.bool true)], args := [d1, d2] }
  | _ => none }
def flowSubsRow : OpenClaim := { program := "ytladjllencanlaa", sum := "395d5f1144b60a50b7676103bddfb67240e98e03976a0d2c6f339309217abf69", func := "shunter/shunterlaw19.FlowSubs", spec := "flowSubs", unfollowed := true, recurses := true, apart := false }
def FlowSubsSaid : Prop := flowSubsRow.holds Try.pinned (OpenSpec.ofChange flowSubsSpec)

/-- ITS FALSE NEIGHBOUR: 'it returns false'. Refute it at one input. -/
def flowSubsWrong : ChangeSpec := { name := "flowSubs", fn := fun _ => fun
  | [d1, d2] => { results := [.lit (.bool false)], args := [d1, d2] }
  | _ => none }
def FlowSubsWrongFalsely : Prop := flowSubsRow.holds Try.pinned (OpenSpec.ofChange flowSubsWrong)

/-- 'shunterlaw19.FlowWhole': WHATEVER THE INPUT: true; the input reads as it did. -/
def flowWholeSpec : ChangeSpec := { name := "flowWhole", fn := fun _ => fun
  | [d] => { results := [.lit (.bool true)], args := [d] }
  | _ => none }
def flowWholeRow : OpenClaim := { program := "ytladjllencanlaa", sum := "395d5f1144b60a50b7676103bddfb67240e98e03976a0d2c6f339309217abf69", func := "shunter/shunterlaw19.FlowWhole", spec := "flowWhole", unfollowed := true, recurses := true, apart := false }
def FlowWholeSaid : Prop := flowWholeRow.holds Try.pinned (OpenSpec.ofChange flowWholeSpec)

/-- ITS FALSE NEIGHBOUR: 'it returns false'. Refute it at one input. -/
def flowWholeWrong : ChangeSpec := { name := "flowWhole", fn := fun _ => fun
  | [d] => { results := [.lit (.bool false)], args := [d] }
  | _ => none }
def FlowWholeWrongFalsely : Prop := flowWholeRow.holds Try.pinned (OpenSpec.ofChange flowWholeWrong)

/-- 'shunterlaw19.FlowLeaves': WHATEVER THE INPUT: true; the input reads as it did. -/
def flowLeavesSpec : ChangeSpec := { name := "flowLeaves", fn := fun _ => fun
  | [d1, d2] => { results := [.lit (.bool true)], args := [d1, d2] }
  | _ => none }
def flowLeavesRow : OpenClaim := { program := "ytladjllencanlaa", sum := "395d5f1144b60a50b7676103bddfb67240e98e03976a0d2c6f339309217abf69", func := "shunter/shunterlaw19.FlowLeaves", spec := "flowLeaves", unfollowed := true, recurses := true, apart := false }
def FlowLeavesSaid : Prop := flowLeavesRow.holds Try.pinned (OpenSpec.ofChange flowLeavesSpec)

/-- ITS FALSE NEIGHBOUR: 'it returns false'. Refute it at one input. -/
def flowLeavesWrong : ChangeSpec := { name := "flowLeaves", fn := fun _ => fun
  | [d1, d2] => { results := [.lit (.bool false)], args := [d1, d2] }
  | _ => none }
def FlowLeavesWrongFalsely : Prop := flowLeavesRow.holds Try.pinned (OpenSpec.ofChange flowLeavesWrong)

/-- 'shunterlaw19.FlowNone': WHATEVER THE INPUT: true; the input reads as it did. -/
def flowNoneSpec : ChangeSpec := { name := "flowNone", fn := fun _ => fun
  | [d1, d2] => { results := [.lit (.bool true)], args := [d1, d2] }
  | _ => none }
def flowNoneRow : OpenClaim := { program := "ytladjllencanlaa", sum := "395d5f1144b60a50b7676103bddfb67240e98e03976a0d2c6f339309217abf69", func := "shunter/shunterlaw19.FlowNone", spec := "flowNone", unfollowed := true, recurses := true, apart := false }
def FlowNoneSaid : Prop := flowNoneRow.holds Try.pinned (OpenSpec.ofChange flowNoneSpec)

/-- ITS FALSE NEIGHBOUR: 'it returns false'. Refute it at one input. -/
def flowNoneWrong : ChangeSpec := { name := "flowNone", fn := fun _ => fun
  | [d1, d2] => { results := [.lit (.bool false)], args := [d1, d2] }
  | _ => none }
def FlowNoneWrongFalsely : Prop := flowNoneRow.holds Try.pinned (OpenSpec.ofChange flowNoneWrong)

/- THE SECOND FORM. 'bulk': how many values and letters a reading holds, each counted each time it is reached (what is shared counts as often as it is met; a slice's spare places count too). A statement '..UptoSaid' is the law's where the arguments, and the package variables that the reading takes, are together of bulk at most 1048576: NARROWER than '..Said'. Prove '..Said' where nothing that the law and all that it calls make is longer than what came in: it says more and counts as full. Else prove '..UptoSaid'. A law counts once. -/
mutual
def uptoBulk {H : Type} : DataW H → Nat
  | .lit (.string bytes) => bytes.length + 1
  | .lit _ => 1
  | .nil => 1
  | .ptr d => uptoBulk d + 1
  | .slice elems spare => uptoBulkAll elems + uptoBulkAll spare + 1
  | .agg parts => uptoBulkAll parts + 1
  | .iface _ d => uptoBulk d + 1
  | .map entries => uptoBulkEntries entries + 1
  | .held _ => 1
def uptoBulkAll {H : Type} : List (DataW H) → Nat
  | [] => 0
  | d :: r => uptoBulk d + uptoBulkAll r
def uptoBulkEntries {H : Type} : List (Lit × DataW H) → Nat
  | [] => 0
  | x :: r => uptoBulkEntry x + uptoBulkEntries r
def uptoBulkEntry {H : Type} : Lit × DataW H → Nat
  | (.string bytes, d) => bytes.length + uptoBulk d + 1
  | (_, d) => uptoBulk d + 1
 end
def uptoSmall : (H : Type) → List (DataW H) → Bool := fun _ ds => decide (uptoBulkAll ds ≤ 1048576)
def OpenSpec.upto (s : _root_.Go.ChangeSpec) : _root_.Go.OpenSpec := { _root_.Go.OpenSpec.ofChange s with cond := some uptoSmall }

/-- 'shunterlaw19.FlowOrder', WHERE WHAT IT READS IS OF BULK AT MOST 1048576: true; the input reads as it did. -/
def flowOrderUptoRow : OpenClaim := { program := "ytladjllencanlaa", sum := "395d5f1144b60a50b7676103bddfb67240e98e03976a0d2c6f339309217abf69", func := "shunter/shunterlaw19.FlowOrder", spec := "flowOrder", unfollowed := true, recurses := true, apart := false, narrowed := true }
def FlowOrderUptoSaid : Prop := flowOrderUptoRow.holds Try.pinned (OpenSpec.upto flowOrderSpec)

/-- 'shunterlaw19.FlowChain', WHERE WHAT IT READS IS OF BULK AT MOST 1048576: true; the input reads as it did. -/
def flowChainUptoRow : OpenClaim := { program := "ytladjllencanlaa", sum := "395d5f1144b60a50b7676103bddfb67240e98e03976a0d2c6f339309217abf69", func := "shunter/shunterlaw19.FlowChain", spec := "flowChain", unfollowed := true, recurses := true, apart := false, narrowed := true }
def FlowChainUptoSaid : Prop := flowChainUptoRow.holds Try.pinned (OpenSpec.upto flowChainSpec)

/-- 'shunterlaw19.FlowOther', WHERE WHAT IT READS IS OF BULK AT MOST 1048576: true; the input reads as it did. -/
def flowOtherUptoRow : OpenClaim := { program := "ytladjllencanlaa", sum := "395d5f1144b60a50b7676103bddfb67240e98e03976a0d2c6f339309217abf69", func := "shunter/shunterlaw19.FlowOther", spec := "flowOther", unfollowed := true, recurses := true, apart := false, narrowed := true }
def FlowOtherUptoSaid : Prop := flowOtherUptoRow.holds Try.pinned (OpenSpec.upto flowOtherSpec)

/-- 'shunterlaw19.FlowTells', WHERE WHAT IT READS IS OF BULK AT MOST 1048576: true; the input reads as it did. -/
def flowTellsUptoRow : OpenClaim := { program := "ytladjllencanlaa", sum := "395d5f1144b60a50b7676103bddfb67240e98e03976a0d2c6f339309217abf69", func := "shunter/shunterlaw19.FlowTells", spec := "flowTells", unfollowed := true, recurses := true, apart := false, narrowed := true }
def FlowTellsUptoSaid : Prop := flowTellsUptoRow.holds Try.pinned (OpenSpec.upto flowTellsSpec)

/-- 'shunterlaw19.FlowSubs', WHERE WHAT IT READS IS OF BULK AT MOST 1048576: true; the input reads as it did. -/
def flowSubsUptoRow : OpenClaim := { program := "ytladjllencanlaa", sum := "395d5f1144b60a50b7676103bddfb67240e98e03976a0d2c6f339309217abf69", func := "shunter/shunterlaw19.FlowSubs", spec := "flowSubs", unfollowed := true, recurses := true, apart := false, narrowed := true }
def FlowSubsUptoSaid : Prop := flowSubsUptoRow.holds Try.pinned (OpenSpec.upto flowSubsSpec)

/-- 'shunterlaw19.FlowWhole', WHERE WHAT IT READS IS OF BULK AT MOST 1048576: true; the input reads as it did. -/
def flowWholeUptoRow : OpenClaim := { program := "ytladjllencanlaa", sum := "395d5f1144b60a50b7676103bddfb67240e98e03976a0d2c6f339309217abf69", func := "shunter/shunterlaw19.FlowWhole", spec := "flowWhole", unfollowed := true, recurses := true, apart := false, narrowed := true }
def FlowWholeUptoSaid : Prop := flowWholeUptoRow.holds Try.pinned (OpenSpec.upto flowWholeSpec)

/-- 'shunterlaw19.FlowLeaves', WHERE WHAT IT READS IS OF BULK AT MOST 1048576: true; the input reads as it did. -/
def flowLeavesUptoRow : OpenClaim := { program := "ytladjllencanlaa", sum := "395d5f1144b60a50b7676103bddfb67240e98e03976a0d2c6f339309217abf69", func := "shunter/shunterlaw19.FlowLeaves", spec := "flowLeaves", unfollowed := true, recurses := true, apart := false, narrowed := true }
def FlowLeavesUptoSaid : Prop := flowLeavesUptoRow.holds Try.pinned (OpenSpec.upto flowLeavesSpec)

/-- 'shunterlaw19.FlowNone', WHERE WHAT IT READS IS OF BULK AT MOST 1048576: true; the input reads as it did. -/
def flowNoneUptoRow : OpenClaim := { program := "ytladjllencanlaa", sum := "395d5f1144b60a50b7676103bddfb67240e98e03976a0d2c6f339309217abf69", func := "shunter/shunterlaw19.FlowNone", spec := "flowNone", unfollowed := true, recurses := true, apart := false, narrowed := true }
def FlowNoneUptoSaid : Prop := flowNoneUptoRow.holds Try.pinned (OpenSpec.upto flowNoneSpec)

end Rows
end Go.Proofs.Ytladjllencanlaa
