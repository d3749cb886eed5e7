/-
  No cell of these rows narrows 'for every input' (looked for: loops, veiled, ifaces, maps, wideKeys, modest, calm, conditions, laid).
  DERIVED. THE GIVEN ROWS OF THIS SEAT. 6 by the template 'for every input the law returns true; each argument reads behind the call as it read before'; 0 by the template 'total and deterministic' (their statements: YtcefanjnalbihaaTotals.lean).
  GIVEN WITH THE SEED: the statements are not yours to turn. If you find one false, say at which input.
  Laid BY PROGRAM, IN A SANDBOX (cutbox-rows.mjs): the forced cells as the released guide's own fill.sh prints them over the translation fd0c22bf7a6196c6… (all of the seat's roots in one cut). By AI agents, Wed Nov 11 2026. No macro, syntax, notation, axiom, sorry.
-/
import Derived.Test.YtcefanjnalbihaaChecked
import GoSem.Claim
import GoSem.ClaimJoined
import GoSem.ClaimMapViews
import Derived.JoinedTies
import Derived.KernelRfl
namespace Go.Proofs.Ytcefanjnalbihaa
/- THE CELL 'sum', in the pinned program and in every row, IS THE sha256 OF THE DUMP (.gsa) THAT YtcefanjnalbihaaProg.lean LOADS. Nothing in Lean hashes anything: it is a label: what it is worth is what the hold of that sum in a sandbox is worth. -/
noncomputable def Try.pinned : Pinned := { name := "ytcefanjnalbihaa", sum := "fd0c22bf7a6196c68674acfa7d6310d54de8435176a69b826098932fb1fb2a9d", checked := Try.checked }
namespace Rows
def none {H : Type} : Left H := { results := [], args := [] }

/-- 'shunterlaw05.CreditOrder': WHATEVER THE INPUT: true; the input reads as it did. -/
def creditOrderSpec : ChangeSpec := { name := "creditOrder", fn := fun _ => fun
  | [d1, d2] => { results := [.lit (.bool true)], args := [d1, d2] }
  | _ => none }
def creditOrderRow : OpenClaim := { program := "ytcefanjnalbihaa", sum := "fd0c22bf7a6196c68674acfa7d6310d54de8435176a69b826098932fb1fb2a9d", func := "shunter/shunterlaw05.CreditOrder", spec := "creditOrder", apart := false }
def CreditOrderSaid : Prop := creditOrderRow.holds Try.pinned (OpenSpec.ofChange creditOrderSpec)

/-- ITS FALSE NEIGHBOUR: 'it returns false'. Refute it at one input. -/
def creditOrderWrong : ChangeSpec := { name := "creditOrder", fn := fun _ => fun
  | [d1, d2] => { results := [.lit (.bool false)], args := [d1, d2] }
  | _ => none }
def CreditOrderWrongFalsely : Prop := creditOrderRow.holds Try.pinned (OpenSpec.ofChange creditOrderWrong)

/-- 'shunterlaw05.CreditNumbers': WHATEVER THE INPUT: true; the input reads as it did. -/
def creditNumbersSpec : ChangeSpec := { name := "creditNumbers", fn := fun _ => fun
  | [d1, d2, d3] => { results := [.lit (.bool true)], args := [d1, d2, d3] }
  | _ => none }
def creditNumbersRow : OpenClaim := { program := "ytcefanjnalbihaa", sum := "fd0c22bf7a6196c68674acfa7d6310d54de8435176a69b826098932fb1fb2a9d", func := "shunter/shunterlaw05.CreditNumbers", spec := "creditNumbers", apart := false }
def CreditNumbersSaid : Prop := creditNumbersRow.holds Try.pinned (OpenSpec.ofChange creditNumbersSpec)

/-- ITS FALSE NEIGHBOUR: 'it returns false'. Refute it at one input. -/
def creditNumbersWrong : ChangeSpec := { name := "creditNumbers", fn := fun _ => fun
  | [d1, d2, d3] => { results := [.lit (.bool false)], args := [d1, d2, d3] }
  | _ => none }
def CreditNumbersWrongFalsely : Prop := creditNumbersRow.holds Try.pinned (OpenSpec.ofChange creditNumbersWrong)

/-- 'shunterlaw05.CreditNew': WHATEVER THE INPUT: true; the input reads as it did. -/
def creditNewSpec : ChangeSpec := { name := "creditNew", fn := fun _ => fun
  | [d1, d2] => { results := [.lit (.bool true)], args := [d1, d2] }
  | _ => none }
def creditNewRow : OpenClaim := { program := "ytcefanjnalbihaa", sum := "fd0c22bf7a6196c68674acfa7d6310d54de8435176a69b826098932fb1fb2a9d", func := "shunter/shunterlaw05.CreditNew", spec := "creditNew", apart := false }
def CreditNewSaid : Prop := creditNewRow.holds Try.pinned (OpenSpec.ofChange creditNewSpec)

/-- ITS FALSE NEIGHBOUR: 'it returns false'. Refute it at one input. -/
def creditNewWrong : ChangeSpec := { name := "creditNew", fn := fun _ => fun
  | [d1, d2] => { results := [.lit (.bool false)], args := [d1, d2] }
  | _ => none }
def CreditNewWrongFalsely : Prop := creditNewRow.holds Try.pinned (OpenSpec.ofChange creditNewWrong)

/-- 'shunterlaw05.CreditStale': WHATEVER THE INPUT: true; the input reads as it did. -/
def creditStaleSpec : ChangeSpec := { name := "creditStale", fn := fun _ => fun
  | [d1, d2, d3, d4] => { results := [.lit (.bool true)], args := [d1, d2, d3, d4] }
  | _ => none }
def creditStaleRow : OpenClaim := { program := "ytcefanjnalbihaa", sum := "fd0c22bf7a6196c68674acfa7d6310d54de8435176a69b826098932fb1fb2a9d", func := "shunter/shunterlaw05.CreditStale", spec := "creditStale", apart := false }
def CreditStaleSaid : Prop := creditStaleRow.holds Try.pinned (OpenSpec.ofChange creditStaleSpec)

/-- ITS FALSE NEIGHBOUR: 'it returns false'. Refute it at one input. -/
def creditStaleWrong : ChangeSpec := { name := "creditStale", fn := fun _ => fun
  | [d1, d2, d3, d4] => { results := [.lit (.bool false)], args := [d1, d2, d3, d4] }
  | _ => none }
def CreditStaleWrongFalsely : Prop := creditStaleRow.holds Try.pinned (OpenSpec.ofChange creditStaleWrong)

/-- 'shunterlaw05.CreditFull': WHATEVER THE INPUT: true; the input reads as it did. -/
def creditFullSpec : ChangeSpec := { name := "creditFull", fn := fun _ => fun
  | [d1, d2] => { results := [.lit (.bool true)], args := [d1, d2] }
  | _ => none }
def creditFullRow : OpenClaim := { program := "ytcefanjnalbihaa", sum := "fd0c22bf7a6196c68674acfa7d6310d54de8435176a69b826098932fb1fb2a9d", func := "shunter/shunterlaw05.CreditFull", spec := "creditFull", apart := false }
def CreditFullSaid : Prop := creditFullRow.holds Try.pinned (OpenSpec.ofChange creditFullSpec)

/-- ITS FALSE NEIGHBOUR: 'it returns false'. Refute it at one input. -/
def creditFullWrong : ChangeSpec := { name := "creditFull", fn := fun _ => fun
  | [d1, d2] => { results := [.lit (.bool false)], args := [d1, d2] }
  | _ => none }
def CreditFullWrongFalsely : Prop := creditFullRow.holds Try.pinned (OpenSpec.ofChange creditFullWrong)

/-- 'shunterlaw05.CreditRises': WHATEVER THE INPUT: true; the input reads as it did. -/
def creditRisesSpec : ChangeSpec := { name := "creditRises", fn := fun _ => fun
  | [d1, d2, d3] => { results := [.lit (.bool true)], args := [d1, d2, d3] }
  | _ => none }
def creditRisesRow : OpenClaim := { program := "ytcefanjnalbihaa", sum := "fd0c22bf7a6196c68674acfa7d6310d54de8435176a69b826098932fb1fb2a9d", func := "shunter/shunterlaw05.CreditRises", spec := "creditRises", apart := false }
def CreditRisesSaid : Prop := creditRisesRow.holds Try.pinned (OpenSpec.ofChange creditRisesSpec)

/-- ITS FALSE NEIGHBOUR: 'it returns false'. Refute it at one input. -/
def creditRisesWrong : ChangeSpec := { name := "creditRises", fn := fun _ => fun
  | [d1, d2, d3] => { results := [.lit (.bool false)], args := [d1, d2, d3] }
  | _ => none }
def CreditRisesWrongFalsely : Prop := creditRisesRow.holds Try.pinned (OpenSpec.ofChange creditRisesWrong)

/- THE SECOND FORM. 'bulk': how many values and letters a reading holds, each counted each time it is reached (what is shared counts as often as it is met; a slice's spare places count too). A statement '..UptoSaid' is the law's where the arguments, and the package variables that the reading takes, are together of bulk at most 1048576: NARROWER than '..Said'. Prove '..Said' where nothing that the law and all that it calls make is longer than what came in: it says more and counts as full. Else prove '..UptoSaid'. A law counts once. -/
mutual
def uptoBulk {H : Type} : DataW H → Nat
  | .lit (.string bytes) => bytes.length + 1
  | .lit _ => 1
  | .nil => 1
  | .ptr d => uptoBulk d + 1
  | .slice elems spare => uptoBulkAll elems + uptoBulkAll spare + 1
  | .agg parts => uptoBulkAll parts + 1
  | .iface _ d => uptoBulk d + 1
  | .map entries => uptoBulkEntries entries + 1
  | .held _ => 1
def uptoBulkAll {H : Type} : List (DataW H) → Nat
  | [] => 0
  | d :: r => uptoBulk d + uptoBulkAll r
def uptoBulkEntries {H : Type} : List (Lit × DataW H) → Nat
  | [] => 0
  | x :: r => uptoBulkEntry x + uptoBulkEntries r
def uptoBulkEntry {H : Type} : Lit × DataW H → Nat
  | (.string bytes, d) => bytes.length + uptoBulk d + 1
  | (_, d) => uptoBulk d + 1
 end
def uptoSmall : (H : Type) → List (DataW H) → Bool := fun _ ds => decide (uptoBulkAll ds ≤ 1048576)
def OpenSpec.upto (s : _root_.Go.ChangeSpec) : _root_.Go.OpenSpec := { _root_.Go.OpenSpec.ofChange s with cond := some uptoSmall }

/-- 'shunterlaw05.CreditOrder', WHERE WHAT IT READS IS OF BULK AT MOST 1048576: true; the input reads as it did. -/
def creditOrderUptoRow : OpenClaim := { program := "ytcefanjnalbihaa", sum := "fd0c22bf7a6196c68674acfa7d6310d54de8435176a69b826098932fb1fb2a9d", func := "shunter/shunterlaw05.CreditOrder", spec := "creditOrder", apart := false, narrowed := true }
def CreditOrderUptoSaid : Prop := creditOrderUptoRow.holds Try.pinned (OpenSpec.upto creditOrderSpec)

/-- 'shunterlaw05.CreditNumbers', WHERE WHAT IT READS IS OF BULK AT MOST 1048576: true; the input reads as it did. -/
def creditNumbersUptoRow : OpenClaim := { program := "ytcefanjnalbihaa", sum := "fd0c22bf7a6196c68674acfa7d6310d54de8435176a69b826098932fb1fb2a9d", func := "shunter/shunterlaw05.CreditNumbers", spec := "creditNumbers", apart := false, narrowed := true }
def CreditNumbersUptoSaid : Prop := creditNumbersUptoRow.holds Try.pinned (OpenSpec.upto creditNumbersSpec)

/-- 'shunterlaw05.CreditNew', WHERE WHAT IT READS IS OF BULK AT MOST 1048576: true; the input reads as it did. -/
def creditNewUptoRow : OpenClaim := { program := "ytcefanjnalbihaa", sum := "fd0c22bf7a6196c68674acfa7d6310d54de8435176a69b826098932fb1fb2a9d", func := "shunter/shunterlaw05.CreditNew", spec := "creditNew", apart := false, narrowed := true }
def CreditNewUptoSaid : Prop := creditNewUptoRow.holds Try.pinned (OpenSpec.upto creditNewSpec)

/-- 'shunterlaw05.CreditStale', WHERE WHAT IT READS IS OF BULK AT MOST 1048576: true; the input reads as it did. -/
def creditStaleUptoRow : OpenClaim := { program := "ytcefanjnalbihaa", sum := "fd0c22bf7a6196c68674acfa7d6310d54de8435176a69b826098932fb1fb2a9d", func := "shunter/shunterlaw05.CreditStale", spec := "creditStale", apart := false, narrowed := true }
def CreditStaleUptoSaid : Prop := creditStaleUptoRow.holds Try.pinned (OpenSpec.upto creditStaleSpec)

/-- 'shunterlaw05.CreditFull', WHERE WHAT IT READS IS OF BULK AT MOST 1048576: true; the input reads as it did. -/
def creditFullUptoRow : OpenClaim := { program := "ytcefanjnalbihaa", sum := "fd0c22bf7a6196c68674acfa7d6310d54de8435176a69b826098932fb1fb2a9d", func := "shunter/shunterlaw05.CreditFull", spec := "creditFull", apart := false, narrowed := true }
def CreditFullUptoSaid : Prop := creditFullUptoRow.holds Try.pinned (OpenSpec.upto creditFullSpec)

/-- 'shunterlaw05.CreditRises', WHERE WHAT IT READS IS OF BULK AT MOST 1048576: true; the input reads as it did. -/
def creditRisesUptoRow : OpenClaim := { program := "ytcefanjnalbihaa", sum := "fd0c22bf7a6196c68674acfa7d6310d54de8435176a69b826098932fb1fb2a9d", func := "shunter/shunterlaw05.CreditRises", spec := "creditRises", apart := false, narrowed := true }
def CreditRisesUptoSaid : Prop := creditRisesUptoRow.holds Try.pinned (OpenSpec.upto creditRisesSpec)

end Rows
end Go.Proofs.Ytcefanjnalbihaa
