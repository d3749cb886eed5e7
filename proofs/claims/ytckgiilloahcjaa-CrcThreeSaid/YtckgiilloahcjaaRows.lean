/-
  No cell of these rows narrows 'for every input' (looked for: loops, veiled, ifaces, maps, wideKeys, modest, calm, conditions, laid).
  DERIVED. THE GIVEN ROWS OF THIS SEAT. 8 by the template 'for every input the law returns true; each argument reads behind the call as it read before'; 0 by the template 'total and deterministic' (their statements: YtckgiilloahcjaaTotals.lean).
  GIVEN WITH THE SEED: the statements are not yours to turn. If you find one false, say at which input.
  Laid BY PROGRAM, IN A SANDBOX (cutbox-rows.mjs): the forced cells as the released guide's own fill.sh prints them over the translation dc4b58c358d0e2ab… (all of the seat's roots in one cut). By AI agents, Wed Nov 11 2026. No macro, syntax, notation, axiom, sorry.
-/
import Derived.Test.YtckgiilloahcjaaChecked
import GoSem.Claim
import GoSem.ClaimJoined
import GoSem.ClaimMapViews
import Derived.JoinedTies
import Derived.KernelRfl
namespace Go.Proofs.Ytckgiilloahcjaa
/- THE CELL 'sum', in the pinned program and in every row, IS THE sha256 OF THE DUMP (.gsa) THAT YtckgiilloahcjaaProg.lean LOADS. Nothing in Lean hashes anything: it is a label: what it is worth is what the hold of that sum in a sandbox is worth. -/
noncomputable def Try.pinned : Pinned := { name := "ytckgiilloahcjaa", sum := "dc4b58c358d0e2abb848e536a89bc07b72012b89a940392880b41d7de9f00cac", checked := Try.checked }
namespace Rows
def none {H : Type} : Left H := { results := [], args := [] }

/-- 'shunterlaw02.CrcStays': WHATEVER THE INPUT: true; the input reads as it did. -/
def crcStaysSpec : ChangeSpec := { name := "crcStays", fn := fun _ => fun
  | [d] => { results := [.lit (.bool true)], args := [d] }
  | _ => none }
def crcStaysRow : OpenClaim := { program := "ytckgiilloahcjaa", sum := "dc4b58c358d0e2abb848e536a89bc07b72012b89a940392880b41d7de9f00cac", func := "shunter/shunterlaw02.CrcStays", spec := "crcStays", apart := false }
def CrcStaysSaid : Prop := crcStaysRow.holds Try.pinned (OpenSpec.ofChange crcStaysSpec)

/-- ITS FALSE NEIGHBOUR: 'it returns false'. Refute it at one input. -/
def crcStaysWrong : ChangeSpec := { name := "crcStays", fn := fun _ => fun
  | [d] => { results := [.lit (.bool false)], args := [d] }
  | _ => none }
def CrcStaysWrongFalsely : Prop := crcStaysRow.holds Try.pinned (OpenSpec.ofChange crcStaysWrong)

/-- 'shunterlaw02.CrcOne': WHATEVER THE INPUT: true; the input reads as it did. -/
def crcOneSpec : ChangeSpec := { name := "crcOne", fn := fun _ => fun
  | [d1, d2] => { results := [.lit (.bool true)], args := [d1, d2] }
  | _ => none }
def crcOneRow : OpenClaim := { program := "ytckgiilloahcjaa", sum := "dc4b58c358d0e2abb848e536a89bc07b72012b89a940392880b41d7de9f00cac", func := "shunter/shunterlaw02.CrcOne", spec := "crcOne", apart := false }
def CrcOneSaid : Prop := crcOneRow.holds Try.pinned (OpenSpec.ofChange crcOneSpec)

/-- ITS FALSE NEIGHBOUR: 'it returns false'. Refute it at one input. -/
def crcOneWrong : ChangeSpec := { name := "crcOne", fn := fun _ => fun
  | [d1, d2] => { results := [.lit (.bool false)], args := [d1, d2] }
  | _ => none }
def CrcOneWrongFalsely : Prop := crcOneRow.holds Try.pinned (OpenSpec.ofChange crcOneWrong)

/-- 'shunterlaw02.CrcTwo': WHATEVER THE INPUT: true; the input reads as it did. -/
def crcTwoSpec : ChangeSpec := { name := "crcTwo", fn := fun _ => fun
  | [d1, d2, d3] => { results := [.lit (.bool true)], args := [d1, d2, d3] }
  | _ => none }
def crcTwoRow : OpenClaim := { program := "ytckgiilloahcjaa", sum := "dc4b58c358d0e2abb848e536a89bc07b72012b89a940392880b41d7de9f00cac", func := "shunter/shunterlaw02.CrcTwo", spec := "crcTwo", apart := false }
def CrcTwoSaid : Prop := crcTwoRow.holds Try.pinned (OpenSpec.ofChange crcTwoSpec)

/-- ITS FALSE NEIGHBOUR: 'it returns false'. Refute it at one input. -/
def crcTwoWrong : ChangeSpec := { name := "crcTwo", fn := fun _ => fun
  | [d1, d2, d3] => { results := [.lit (.bool false)], args := [d1, d2, d3] }
  | _ => none }
def CrcTwoWrongFalsely : Prop := crcTwoRow.holds Try.pinned (OpenSpec.ofChange crcTwoWrong)

/-- 'shunterlaw02.CrcSums': WHATEVER THE INPUT: true; the input reads as it did. -/
def crcSumsSpec : ChangeSpec := { name := "crcSums", fn := fun _ => fun
  | [d] => { results := [.lit (.bool true)], args := [d] }
  | _ => none }
def crcSumsRow : OpenClaim := { program := "ytckgiilloahcjaa", sum := "dc4b58c358d0e2abb848e536a89bc07b72012b89a940392880b41d7de9f00cac", func := "shunter/shunterlaw02.CrcSums", spec := "crcSums", apart := false }
def CrcSumsSaid : Prop := crcSumsRow.holds Try.pinned (OpenSpec.ofChange crcSumsSpec)

/-- ITS FALSE NEIGHBOUR: 'it returns false'. Refute it at one input. -/
def crcSumsWrong : ChangeSpec := { name := "crcSums", fn := fun _ => fun
  | [d] => { results := [.lit (.bool false)], args := [d] }
  | _ => none }
def CrcSumsWrongFalsely : Prop := crcSumsRow.holds Try.pinned (OpenSpec.ofChange crcSumsWrong)

/-- 'shunterlaw02.CrcBytes': WHATEVER THE INPUT: true; the input reads as it did. -/
def crcBytesSpec : ChangeSpec := { name := "crcBytes", fn := fun _ => fun
  | [d1, d2, d3] => { results := [.lit (.bool true)], args := [d1, d2, d3] }
  | _ => none }
def crcBytesRow : OpenClaim := { program := "ytckgiilloahcjaa", sum := "dc4b58c358d0e2abb848e536a89bc07b72012b89a940392880b41d7de9f00cac", func := "shunter/shunterlaw02.CrcBytes", spec := "crcBytes", apart := false }
def CrcBytesSaid : Prop := crcBytesRow.holds Try.pinned (OpenSpec.ofChange crcBytesSpec)

/-- ITS FALSE NEIGHBOUR: 'it returns false'. Refute it at one input. -/
def crcBytesWrong : ChangeSpec := { name := "crcBytes", fn := fun _ => fun
  | [d1, d2, d3] => { results := [.lit (.bool false)], args := [d1, d2, d3] }
  | _ => none }
def CrcBytesWrongFalsely : Prop := crcBytesRow.holds Try.pinned (OpenSpec.ofChange crcBytesWrong)

/-- 'shunterlaw02.CrcPairs': WHATEVER THE INPUT: true; the input reads as it did. -/
def crcPairsSpec : ChangeSpec := { name := "crcPairs", fn := fun _ => fun
  | [d1, d2, d3, d4] => { results := [.lit (.bool true)], args := [d1, d2, d3, d4] }
  | _ => none }
def crcPairsRow : OpenClaim := { program := "ytckgiilloahcjaa", sum := "dc4b58c358d0e2abb848e536a89bc07b72012b89a940392880b41d7de9f00cac", func := "shunter/shunterlaw02.CrcPairs", spec := "crcPairs", apart := false }
def CrcPairsSaid : Prop := crcPairsRow.holds Try.pinned (OpenSpec.ofChange crcPairsSpec)

/-- ITS FALSE NEIGHBOUR: 'it returns false'. Refute it at one input. -/
def crcPairsWrong : ChangeSpec := { name := "crcPairs", fn := fun _ => fun
  | [d1, d2, d3, d4] => { results := [.lit (.bool false)], args := [d1, d2, d3, d4] }
  | _ => none }
def CrcPairsWrongFalsely : Prop := crcPairsRow.holds Try.pinned (OpenSpec.ofChange crcPairsWrong)

/-- 'shunterlaw02.CrcNothing': WHATEVER THE INPUT: true; the input reads as it did. -/
def crcNothingSpec : ChangeSpec := { name := "crcNothing", fn := fun _ => fun
  | [d] => { results := [.lit (.bool true)], args := [d] }
  | _ => none }
def crcNothingRow : OpenClaim := { program := "ytckgiilloahcjaa", sum := "dc4b58c358d0e2abb848e536a89bc07b72012b89a940392880b41d7de9f00cac", func := "shunter/shunterlaw02.CrcNothing", spec := "crcNothing", apart := false }
def CrcNothingSaid : Prop := crcNothingRow.holds Try.pinned (OpenSpec.ofChange crcNothingSpec)

/-- ITS FALSE NEIGHBOUR: 'it returns false'. Refute it at one input. -/
def crcNothingWrong : ChangeSpec := { name := "crcNothing", fn := fun _ => fun
  | [d] => { results := [.lit (.bool false)], args := [d] }
  | _ => none }
def CrcNothingWrongFalsely : Prop := crcNothingRow.holds Try.pinned (OpenSpec.ofChange crcNothingWrong)

/-- 'shunterlaw02.CrcThree': WHATEVER THE INPUT: true; the input reads as it did. -/
def crcThreeSpec : ChangeSpec := { name := "crcThree", fn := fun _ => fun
  | [d1, d2, d3] => { results := [.lit (.bool true)], args := [d1, d2, d3] }
  | _ => none }
def crcThreeRow : OpenClaim := { program := "ytckgiilloahcjaa", sum := "dc4b58c358d0e2abb848e536a89bc07b72012b89a940392880b41d7de9f00cac", func := "shunter/shunterlaw02.CrcThree", spec := "crcThree", apart := false }
def CrcThreeSaid : Prop := crcThreeRow.holds Try.pinned (OpenSpec.ofChange crcThreeSpec)

/-- ITS FALSE NEIGHBOUR: 'it returns false'. Refute it at one input. -/
def crcThreeWrong : ChangeSpec := { name := "crcThree", fn := fun _ => fun
  | [d1, d2, d3] => { results := [.lit (.bool false)], args := [d1, d2, d3] }
  | _ => none }
def CrcThreeWrongFalsely : Prop := crcThreeRow.holds Try.pinned (OpenSpec.ofChange crcThreeWrong)

/- THE SECOND FORM. 'bulk': how many values and letters a reading holds, each counted each time it is reached (what is shared counts as often as it is met; a slice's spare places count too). A statement '..UptoSaid' is the law's where the arguments, and the package variables that the reading takes, are together of bulk at most 1048576: NARROWER than '..Said'. Prove '..Said' where nothing that the law and all that it calls make is longer than what came in: it says more and counts as full. Else prove '..UptoSaid'. A law counts once. -/
mutual
def uptoBulk {H : Type} : DataW H → Nat
  | .lit (.string bytes) => bytes.length + 1
  | .lit _ => 1
  | .nil => 1
  | .ptr d => uptoBulk d + 1
  | .slice elems spare => uptoBulkAll elems + uptoBulkAll spare + 1
  | .agg parts => uptoBulkAll parts + 1
  | .iface _ d => uptoBulk d + 1
  | .map entries => uptoBulkEntries entries + 1
  | .held _ => 1
def uptoBulkAll {H : Type} : List (DataW H) → Nat
  | [] => 0
  | d :: r => uptoBulk d + uptoBulkAll r
def uptoBulkEntries {H : Type} : List (Lit × DataW H) → Nat
  | [] => 0
  | x :: r => uptoBulkEntry x + uptoBulkEntries r
def uptoBulkEntry {H : Type} : Lit × DataW H → Nat
  | (.string bytes, d) => bytes.length + uptoBulk d + 1
  | (_, d) => uptoBulk d + 1
 end
def uptoSmall : (H : Type) → List (DataW H) → Bool := fun _ ds => decide (uptoBulkAll ds ≤ 1048576)
def OpenSpec.upto (s : _root_.Go.ChangeSpec) : _root_.Go.OpenSpec := { _root_.Go.OpenSpec.ofChange s with cond := some uptoSmall }

/-- 'shunterlaw02.CrcStays', WHERE WHAT IT READS IS OF BULK AT MOST 1048576: true; the input reads as it did. -/
def crcStaysUptoRow : OpenClaim := { program := "ytckgiilloahcjaa", sum := "dc4b58c358d0e2abb848e536a89bc07b72012b89a940392880b41d7de9f00cac", func := "shunter/shunterlaw02.CrcStays", spec := "crcStays", apart := false, narrowed := true }
def CrcStaysUptoSaid : Prop := crcStaysUptoRow.holds Try.pinned (OpenSpec.upto crcStaysSpec)

/-- 'shunterlaw02.CrcOne', WHERE WHAT IT READS IS OF BULK AT MOST 1048576: true; the input reads as it did. -/
def crcOneUptoRow : OpenClaim := { program := "ytckgiilloahcjaa", sum := "dc4b58c358d0e2abb848e536a89bc07b72012b89a940392880b41d7de9f00cac", func := "shunter/shunterlaw02.CrcOne", spec := "crcOne", apart := false, narrowed := true }
def CrcOneUptoSaid : Prop := crcOneUptoRow.holds Try.pinned (OpenSpec.upto crcOneSpec)

/-- 'shunterlaw02.CrcTwo', WHERE WHAT IT READS IS OF BULK AT MOST 1048576: true; the input reads as it did. -/
def crcTwoUptoRow : OpenClaim := { program := "ytckgiilloahcjaa", sum := "dc4b58c358d0e2abb848e536a89bc07b72012b89a940392880b41d7de9f00cac", func := "shunter/shunterlaw02.CrcTwo", spec := "crcTwo", apart := false, narrowed := true }
def CrcTwoUptoSaid : Prop := crcTwoUptoRow.holds Try.pinned (OpenSpec.upto crcTwoSpec)

/-- 'shunterlaw02.CrcSums', WHERE WHAT IT READS IS OF BULK AT MOST 1048576: true; the input reads as it did. -/
def crcSumsUptoRow : OpenClaim := { program := "ytckgiilloahcjaa", sum := "dc4b58c358d0e2abb848e536a89bc07b72012b89a940392880b41d7de9f00cac", func := "shunter/shunterlaw02.CrcSums", spec := "crcSums", apart := false, narrowed := true }
def CrcSumsUptoSaid : Prop := crcSumsUptoRow.holds Try.pinned (OpenSpec.upto crcSumsSpec)

/-- 'shunterlaw02.CrcBytes', WHERE WHAT IT READS IS OF BULK AT MOST 1048576: true; the input reads as it did. -/
def crcBytesUptoRow : OpenClaim := { program := "ytckgiilloahcjaa", sum := "dc4b58c358d0e2abb848e536a89bc07b72012b89a940392880b41d7de9f00cac", func := "shunter/shunterlaw02.CrcBytes", spec := "crcBytes", apart := false, narrowed := true }
def CrcBytesUptoSaid : Prop := crcBytesUptoRow.holds Try.pinned (OpenSpec.upto crcBytesSpec)

/-- 'shunterlaw02.CrcPairs', WHERE WHAT IT READS IS OF BULK AT MOST 1048576: true; the input reads as it did. -/
def crcPairsUptoRow : OpenClaim := { program := "ytckgiilloahcjaa", sum := "dc4b58c358d0e2abb848e536a89bc07b72012b89a940392880b41d7de9f00cac", func := "shunter/shunterlaw02.CrcPairs", spec := "crcPairs", apart := false, narrowed := true }
def CrcPairsUptoSaid : Prop := crcPairsUptoRow.holds Try.pinned (OpenSpec.upto crcPairsSpec)

/-- 'shunterlaw02.CrcNothing', WHERE WHAT IT READS IS OF BULK AT MOST 1048576: true; the input reads as it did. -/
def crcNothingUptoRow : OpenClaim := { program := "ytckgiilloahcjaa", sum := "dc4b58c358d0e2abb848e536a89bc07b72012b89a940392880b41d7de9f00cac", func := "shunter/shunterlaw02.CrcNothing", spec := "crcNothing", apart := false, narrowed := true }
def CrcNothingUptoSaid : Prop := crcNothingUptoRow.holds Try.pinned (OpenSpec.upto crcNothingSpec)

/-- 'shunterlaw02.CrcThree', WHERE WHAT IT READS IS OF BULK AT MOST 1048576: true; the input reads as it did. -/
def crcThreeUptoRow : OpenClaim := { program := "ytckgiilloahcjaa", sum := "dc4b58c358d0e2abb848e536a89bc07b72012b89a940392880b41d7de9f00cac", func := "shunter/shunterlaw02.CrcThree", spec := "crcThree", apart := false, narrowed := true }
def CrcThreeUptoSaid : Prop := crcThreeUptoRow.holds Try.pinned (OpenSpec.upto crcThreeSpec)

end Rows
end Go.Proofs.Ytckgiilloahcjaa
