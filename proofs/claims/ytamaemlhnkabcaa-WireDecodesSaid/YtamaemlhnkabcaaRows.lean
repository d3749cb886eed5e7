/-
  No cell of these rows narrows 'for every input' (looked for: loops, veiled, ifaces, maps, wideKeys, modest, calm, conditions, laid).
  DERIVED. THE GIVEN ROWS OF THIS SEAT. 10 by the template 'for every input the law returns true; each argument reads behind the call as it read before'; 0 by the template 'total and deterministic' (their statements: YtamaemlhnkabcaaTotals.lean).
  GIVEN WITH THE SEED: the statements are not yours to turn. If you find one false, say at which input.
  Laid BY PROGRAM, IN A SANDBOX (cutbox-rows.mjs): the forced cells as the released guide's own fill.sh prints them over the translation c12283ce974756ae… (all of the seat's roots in one cut). By AI agents, Wed Nov 11 2026. No macro, syntax, notation, axiom, sorry.
-/
import Derived.Test.YtamaemlhnkabcaaChecked
import GoSem.Claim
import GoSem.ClaimJoined
import GoSem.ClaimMapViews
import Derived.JoinedTies
import Derived.KernelRfl
namespace Go.Proofs.Ytamaemlhnkabcaa
/- THE CELL 'sum', in the pinned program and in every row, IS THE sha256 OF THE DUMP (.gsa) THAT YtamaemlhnkabcaaProg.lean LOADS. Nothing in Lean hashes anything: it is a label: what it is worth is what the hold of that sum in a sandbox is worth. -/
noncomputable def Try.pinned : Pinned := { name := "ytamaemlhnkabcaa", sum := "c12283ce974756ae7a7890b855a550663427cf394f76af0e191133937c0b3e0e", checked := Try.checked }
namespace Rows
def none {H : Type} : Left H := { results := [], args := [] }

/-- 'shunterlaw03.WireApart': WHATEVER THE INPUT: true; the input reads as it did. -/
def wireApartSpec : ChangeSpec := { name := "wireApart", fn := fun _ => fun
  | [d1, d2, d3, d4, d5, d6, d7, d8] => { results := [.lit (.bool true)], args := [d1, d2, d3, d4, d5, d6, d7, d8] }
  | _ => none }
def wireApartRow : OpenClaim := { program := "ytamaemlhnkabcaa", sum := "c12283ce974756ae7a7890b855a550663427cf394f76af0e191133937c0b3e0e", func := "shunter/shunterlaw03.WireApart", spec := "wireApart", apart := false }
def WireApartSaid : Prop := wireApartRow.holds Try.pinned (OpenSpec.ofChange wireApartSpec)

/-- ITS FALSE NEIGHBOUR: 'it returns false'. Refute it at one input. -/
def wireApartWrong : ChangeSpec := { name := "wireApart", fn := fun _ => fun
  | [d1, d2, d3, d4, d5, d6, d7, d8] => { results := [.lit (.bool false)], args := [d1, d2, d3, d4, d5, d6, d7, d8] }
  | _ => none }
def WireApartWrongFalsely : Prop := wireApartRow.holds Try.pinned (OpenSpec.ofChange wireApartWrong)

/-- 'shunterlaw03.WireRefuses': WHATEVER THE INPUT: true; the input reads as it did. -/
def wireRefusesSpec : ChangeSpec := { name := "wireRefuses", fn := fun _ => fun
  | [d1, d2, d3, d4, d5] => { results := [.lit (.bool true)], args := [d1, d2, d3, d4, d5] }
  | _ => none }
def wireRefusesRow : OpenClaim := { program := "ytamaemlhnkabcaa", sum := "c12283ce974756ae7a7890b855a550663427cf394f76af0e191133937c0b3e0e", func := "shunter/shunterlaw03.WireRefuses", spec := "wireRefuses", apart := false }
def WireRefusesSaid : Prop := wireRefusesRow.holds Try.pinned (OpenSpec.ofChange wireRefusesSpec)

/-- ITS FALSE NEIGHBOUR: 'it returns false'. Refute it at one input. -/
def wireRefusesWrong : ChangeSpec := { name := "wireRefuses", fn := fun _ => fun
  | [d1, d2, d3, d4, d5] => { results := [.lit (.bool false)], args := [d1, d2, d3, d4, d5] }
  | _ => none }
def WireRefusesWrongFalsely : Prop := wireRefusesRow.holds Try.pinned (OpenSpec.ofChange wireRefusesWrong)

/-- 'shunterlaw03.WireParts': WHATEVER THE INPUT: true; the input reads as it did. -/
def wirePartsSpec : ChangeSpec := { name := "wireParts", fn := fun _ => fun
  | [d1, d2, d3, d4, d5, d6] => { results := [.lit (.bool true)], args := [d1, d2, d3, d4, d5, d6] }
  | _ => none }
def wirePartsRow : OpenClaim := { program := "ytamaemlhnkabcaa", sum := "c12283ce974756ae7a7890b855a550663427cf394f76af0e191133937c0b3e0e", func := "shunter/shunterlaw03.WireParts", spec := "wireParts", apart := false }
def WirePartsSaid : Prop := wirePartsRow.holds Try.pinned (OpenSpec.ofChange wirePartsSpec)

/-- ITS FALSE NEIGHBOUR: 'it returns false'. Refute it at one input. -/
def wirePartsWrong : ChangeSpec := { name := "wireParts", fn := fun _ => fun
  | [d1, d2, d3, d4, d5, d6] => { results := [.lit (.bool false)], args := [d1, d2, d3, d4, d5, d6] }
  | _ => none }
def WirePartsWrongFalsely : Prop := wirePartsRow.holds Try.pinned (OpenSpec.ofChange wirePartsWrong)

/-- 'shunterlaw03.WireEncodes': WHATEVER THE INPUT: true; the input reads as it did. -/
def wireEncodesSpec : ChangeSpec := { name := "wireEncodes", fn := fun _ => fun
  | [d] => { results := [.lit (.bool true)], args := [d] }
  | _ => none }
def wireEncodesRow : OpenClaim := { program := "ytamaemlhnkabcaa", sum := "c12283ce974756ae7a7890b855a550663427cf394f76af0e191133937c0b3e0e", func := "shunter/shunterlaw03.WireEncodes", spec := "wireEncodes", apart := false }
def WireEncodesSaid : Prop := wireEncodesRow.holds Try.pinned (OpenSpec.ofChange wireEncodesSpec)

/-- ITS FALSE NEIGHBOUR: 'it returns false'. Refute it at one input. -/
def wireEncodesWrong : ChangeSpec := { name := "wireEncodes", fn := fun _ => fun
  | [d] => { results := [.lit (.bool false)], args := [d] }
  | _ => none }
def WireEncodesWrongFalsely : Prop := wireEncodesRow.holds Try.pinned (OpenSpec.ofChange wireEncodesWrong)

/-- 'shunterlaw03.WireDecodes': WHATEVER THE INPUT: true; the input reads as it did. -/
def wireDecodesSpec : ChangeSpec := { name := "wireDecodes", fn := fun _ => fun
  | [d] => { results := [.lit (.bool true)], args := [d] }
  | _ => none }
def wireDecodesRow : OpenClaim := { program := "ytamaemlhnkabcaa", sum := "c12283ce974756ae7a7890b855a550663427cf394f76af0e191133937c0b3e0e", func := "shunter/shunterlaw03.WireDecodes", spec := "wireDecodes", apart := false }
def WireDecodesSaid : Prop := wireDecodesRow.holds Try.pinned (OpenSpec.ofChange wireDecodesSpec)

/-- ITS FALSE NEIGHBOUR: 'it returns false'. Refute it at one input. -/
def wireDecodesWrong : ChangeSpec := { name := "wireDecodes", fn := fun _ => fun
  | [d] => { results := [.lit (.bool false)], args := [d] }
  | _ => none }
def WireDecodesWrongFalsely : Prop := wireDecodesRow.holds Try.pinned (OpenSpec.ofChange wireDecodesWrong)

/-- 'shunterlaw03.WireBack': WHATEVER THE INPUT: true; the input reads as it did. -/
def wireBackSpec : ChangeSpec := { name := "wireBack", fn := fun _ => fun
  | [d1, d2, d3, d4, d5, d6, d7] => { results := [.lit (.bool true)], args := [d1, d2, d3, d4, d5, d6, d7] }
  | _ => none }
def wireBackRow : OpenClaim := { program := "ytamaemlhnkabcaa", sum := "c12283ce974756ae7a7890b855a550663427cf394f76af0e191133937c0b3e0e", func := "shunter/shunterlaw03.WireBack", spec := "wireBack", apart := false }
def WireBackSaid : Prop := wireBackRow.holds Try.pinned (OpenSpec.ofChange wireBackSpec)

/-- ITS FALSE NEIGHBOUR: 'it returns false'. Refute it at one input. -/
def wireBackWrong : ChangeSpec := { name := "wireBack", fn := fun _ => fun
  | [d1, d2, d3, d4, d5, d6, d7] => { results := [.lit (.bool false)], args := [d1, d2, d3, d4, d5, d6, d7] }
  | _ => none }
def WireBackWrongFalsely : Prop := wireBackRow.holds Try.pinned (OpenSpec.ofChange wireBackWrong)

/-- 'shunterlaw03.WireBends': WHATEVER THE INPUT: true; the input reads as it did. -/
def wireBendsSpec : ChangeSpec := { name := "wireBends", fn := fun _ => fun
  | [d1, d2, d3, d4, d5, d6, d7, d8] => { results := [.lit (.bool true)], args := [d1, d2, d3, d4, d5, d6, d7, d8] }
  | _ => none }
def wireBendsRow : OpenClaim := { program := "ytamaemlhnkabcaa", sum := "c12283ce974756ae7a7890b855a550663427cf394f76af0e191133937c0b3e0e", func := "shunter/shunterlaw03.WireBends", spec := "wireBends", apart := false }
def WireBendsSaid : Prop := wireBendsRow.holds Try.pinned (OpenSpec.ofChange wireBendsSpec)

/-- ITS FALSE NEIGHBOUR: 'it returns false'. Refute it at one input. -/
def wireBendsWrong : ChangeSpec := { name := "wireBends", fn := fun _ => fun
  | [d1, d2, d3, d4, d5, d6, d7, d8] => { results := [.lit (.bool false)], args := [d1, d2, d3, d4, d5, d6, d7, d8] }
  | _ => none }
def WireBendsWrongFalsely : Prop := wireBendsRow.holds Try.pinned (OpenSpec.ofChange wireBendsWrong)

/-- 'shunterlaw03.WireOnly': WHATEVER THE INPUT: true; the input reads as it did. -/
def wireOnlySpec : ChangeSpec := { name := "wireOnly", fn := fun _ => fun
  | [d] => { results := [.lit (.bool true)], args := [d] }
  | _ => none }
def wireOnlyRow : OpenClaim := { program := "ytamaemlhnkabcaa", sum := "c12283ce974756ae7a7890b855a550663427cf394f76af0e191133937c0b3e0e", func := "shunter/shunterlaw03.WireOnly", spec := "wireOnly", apart := false }
def WireOnlySaid : Prop := wireOnlyRow.holds Try.pinned (OpenSpec.ofChange wireOnlySpec)

/-- ITS FALSE NEIGHBOUR: 'it returns false'. Refute it at one input. -/
def wireOnlyWrong : ChangeSpec := { name := "wireOnly", fn := fun _ => fun
  | [d] => { results := [.lit (.bool false)], args := [d] }
  | _ => none }
def WireOnlyWrongFalsely : Prop := wireOnlyRow.holds Try.pinned (OpenSpec.ofChange wireOnlyWrong)

/-- 'shunterlaw03.WireLong': WHATEVER THE INPUT: true; the input reads as it did. -/
def wireLongSpec : ChangeSpec := { name := "wireLong", fn := fun _ => fun
  | [d1, d2, d3, d4, d5, d6] => { results := [.lit (.bool true)], args := [d1, d2, d3, d4, d5, d6] }
  | _ => none }
def wireLongRow : OpenClaim := { program := "ytamaemlhnkabcaa", sum := "c12283ce974756ae7a7890b855a550663427cf394f76af0e191133937c0b3e0e", func := "shunter/shunterlaw03.WireLong", spec := "wireLong", apart := false }
def WireLongSaid : Prop := wireLongRow.holds Try.pinned (OpenSpec.ofChange wireLongSpec)

/-- ITS FALSE NEIGHBOUR: 'it returns false'. Refute it at one input. -/
def wireLongWrong : ChangeSpec := { name := "wireLong", fn := fun _ => fun
  | [d1, d2, d3, d4, d5, d6] => { results := [.lit (.bool false)], args := [d1, d2, d3, d4, d5, d6] }
  | _ => none }
def WireLongWrongFalsely : Prop := wireLongRow.holds Try.pinned (OpenSpec.ofChange wireLongWrong)

/-- 'shunterlaw03.WireShort': WHATEVER THE INPUT: true; the input reads as it did. -/
def wireShortSpec : ChangeSpec := { name := "wireShort", fn := fun _ => fun
  | [d] => { results := [.lit (.bool true)], args := [d] }
  | _ => none }
def wireShortRow : OpenClaim := { program := "ytamaemlhnkabcaa", sum := "c12283ce974756ae7a7890b855a550663427cf394f76af0e191133937c0b3e0e", func := "shunter/shunterlaw03.WireShort", spec := "wireShort", apart := false }
def WireShortSaid : Prop := wireShortRow.holds Try.pinned (OpenSpec.ofChange wireShortSpec)

/-- ITS FALSE NEIGHBOUR: 'it returns false'. Refute it at one input. -/
def wireShortWrong : ChangeSpec := { name := "wireShort", fn := fun _ => fun
  | [d] => { results := [.lit (.bool false)], args := [d] }
  | _ => none }
def WireShortWrongFalsely : Prop := wireShortRow.holds Try.pinned (OpenSpec.ofChange wireShortWrong)

/- THE SECOND FORM. 'bulk': how many values and letters a reading holds, each counted each time it is reached (what is shared counts as often as it is met; a slice's spare places count too). A statement '..UptoSaid' is the law's where the arguments, and the package variables that the reading takes, are together of bulk at most 1048576: NARROWER than '..Said'. Prove '..Said' where nothing that the law and all that it calls make is longer than what came in: it says more and counts as full. Else prove '..UptoSaid'. A law counts once. -/
mutual
def uptoBulk {H : Type} : DataW H → Nat
  | .lit (.string bytes) => bytes.length + 1
  | .lit _ => 1
  | .nil => 1
  | .ptr d => uptoBulk d + 1
  | .slice elems spare => uptoBulkAll elems + uptoBulkAll spare + 1
  | .agg parts => uptoBulkAll parts + 1
  | .iface _ d => uptoBulk d + 1
  | .map entries => uptoBulkEntries entries + 1
  | .held _ => 1
def uptoBulkAll {H : Type} : List (DataW H) → Nat
  | [] => 0
  | d :: r => uptoBulk d + uptoBulkAll r
def uptoBulkEntries {H : Type} : List (Lit × DataW H) → Nat
  | [] => 0
  | x :: r => uptoBulkEntry x + uptoBulkEntries r
def uptoBulkEntry {H : Type} : Lit × DataW H → Nat
  | (.string bytes, d) => bytes.length + uptoBulk d + 1
  | (_, d) => uptoBulk d + 1
 end
def uptoSmall : (H : Type) → List (DataW H) → Bool := fun _ ds => decide (uptoBulkAll ds ≤ 1048576)
def OpenSpec.upto (s : _root_.Go.ChangeSpec) : _root_.Go.OpenSpec := { _root_.Go.OpenSpec.ofChange s with cond := some uptoSmall }

/-- 'shunterlaw03.WireApart', WHERE WHAT IT READS IS OF BULK AT MOST 1048576: true; the input reads as it did. -/
def wireApartUptoRow : OpenClaim := { program := "ytamaemlhnkabcaa", sum := "c12283ce974756ae7a7890b855a550663427cf394f76af0e191133937c0b3e0e", func := "shunter/shunterlaw03.WireApart", spec := "wireApart", apart := false, narrowed := true }
def WireApartUptoSaid : Prop := wireApartUptoRow.holds Try.pinned (OpenSpec.upto wireApartSpec)

/-- 'shunterlaw03.WireRefuses', WHERE WHAT IT READS IS OF BULK AT MOST 1048576: true; the input reads as it did. -/
def wireRefusesUptoRow : OpenClaim := { program := "ytamaemlhnkabcaa", sum := "c12283ce974756ae7a7890b855a550663427cf394f76af0e191133937c0b3e0e", func := "shunter/shunterlaw03.WireRefuses", spec := "wireRefuses", apart := false, narrowed := true }
def WireRefusesUptoSaid : Prop := wireRefusesUptoRow.holds Try.pinned (OpenSpec.upto wireRefusesSpec)

/-- 'shunterlaw03.WireParts', WHERE WHAT IT READS IS OF BULK AT MOST 1048576: true; the input reads as it did. -/
def wirePartsUptoRow : OpenClaim := { program := "ytamaemlhnkabcaa", sum := "c12283ce974756ae7a7890b855a550663427cf394f76af0e191133937c0b3e0e", func := "shunter/shunterlaw03.WireParts", spec := "wireParts", apart := false, narrowed := true }
def WirePartsUptoSaid : Prop := wirePartsUptoRow.holds Try.pinned (OpenSpec.upto wirePartsSpec)

/-- 'shunterlaw03.WireEncodes', WHERE WHAT IT READS IS OF BULK AT MOST 1048576: true; the input reads as it did. -/
def wireEncodesUptoRow : OpenClaim := { program := "ytamaemlhnkabcaa", sum := "c12283ce974756ae7a7890b855a550663427cf394f76af0e191133937c0b3e0e", func := "shunter/shunterlaw03.WireEncodes", spec := "wireEncodes", apart := false, narrowed := true }
def WireEncodesUptoSaid : Prop := wireEncodesUptoRow.holds Try.pinned (OpenSpec.upto wireEncodesSpec)

/-- 'shunterlaw03.WireDecodes', WHERE WHAT IT READS IS OF BULK AT MOST 1048576: true; the input reads as it did. -/
def wireDecodesUptoRow : OpenClaim := { program := "ytamaemlhnkabcaa", sum := "c12283ce974756ae7a7890b855a550663427cf394f76af0e191133937c0b3e0e", func := "shunter/shunterlaw03.WireDecodes", spec := "wireDecodes", apart := false, narrowed := true }
def WireDecodesUptoSaid : Prop := wireDecodesUptoRow.holds Try.pinned (OpenSpec.upto wireDecodesSpec)

/-- 'shunterlaw03.WireBack', WHERE WHAT IT READS IS OF BULK AT MOST 1048576: true; the input reads as it did. -/
def wireBackUptoRow : OpenClaim := { program := "ytamaemlhnkabcaa", sum := "c12283ce974756ae7a7890b855a550663427cf394f76af0e191133937c0b3e0e", func := "shunter/shunterlaw03.WireBack", spec := "wireBack", apart := false, narrowed := true }
def WireBackUptoSaid : Prop := wireBackUptoRow.holds Try.pinned (OpenSpec.upto wireBackSpec)

/-- 'shunterlaw03.WireBends', WHERE WHAT IT READS IS OF BULK AT MOST 1048576: true; the input reads as it did. -/
def wireBendsUptoRow : OpenClaim := { program := "ytamaemlhnkabcaa", sum := "c12283ce974756ae7a7890b855a550663427cf394f76af0e191133937c0b3e0e", func := "shunter/shunterlaw03.WireBends", spec := "wireBends", apart := false, narrowed := true }
def WireBendsUptoSaid : Prop := wireBendsUptoRow.holds Try.pinned (OpenSpec.upto wireBendsSpec)

/-- 'shunterlaw03.WireOnly', WHERE WHAT IT READS IS OF BULK AT MOST 1048576: true; the input reads as it did. -/
def wireOnlyUptoRow : OpenClaim := { program := "ytamaemlhnkabcaa", sum := "c12283ce974756ae7a7890b855a550663427cf394f76af0e191133937c0b3e0e", func := "shunter/shunterlaw03.WireOnly", spec := "wireOnly", apart := false, narrowed := true }
def WireOnlyUptoSaid : Prop := wireOnlyUptoRow.holds Try.pinned (OpenSpec.upto wireOnlySpec)

/-- 'shunterlaw03.WireLong', WHERE WHAT IT READS IS OF BULK AT MOST 1048576: true; the input reads as it did. -/
def wireLongUptoRow : OpenClaim := { program := "ytamaemlhnkabcaa", sum := "c12283ce974756ae7a7890b855a550663427cf394f76af0e191133937c0b3e0e", func := "shunter/shunterlaw03.WireLong", spec := "wireLong", apart := false, narrowed := true }
def WireLongUptoSaid : Prop := wireLongUptoRow.holds Try.pinned (OpenSpec.upto wireLongSpec)

/-- 'shunterlaw03.WireShort', WHERE WHAT IT READS IS OF BULK AT MOST 1048576: true; the input reads as it did. -/
def wireShortUptoRow : OpenClaim := { program := "ytamaemlhnkabcaa", sum := "c12283ce974756ae7a7890b855a550663427cf394f76af0e191133937c0b3e0e", func := "shunter/shunterlaw03.WireShort", spec := "wireShort", apart := false, narrowed := true }
def WireShortUptoSaid : Prop := wireShortUptoRow.holds Try.pinned (OpenSpec.upto wireShortSpec)

end Rows
end Go.Proofs.Ytamaemlhnkabcaa
