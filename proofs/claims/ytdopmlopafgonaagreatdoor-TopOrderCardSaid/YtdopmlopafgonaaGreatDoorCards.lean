/-
  DERIVED. GIVEN WITH THE SEED: THE CARDS: each row of YtdopmlopafgonaaGreatDoorRows.lean that lists a variable, with what it lists TIED to the program's text (the seventh form; the later family's looks); each row that meets fmt, with fmt's text TOLD by the authors' own Lean function (tested against real Go, not proved from fmt's source: count such statements apart). THE CARD IS WHAT COUNTS. Prove the row's statement (the work); the ties are given (YtdopmlopafgonaaGreatDoorTie.lean); close each card by the builder's one call (the guide's Derived/Test/ToyasCard.lean, 'card_holds'). Laid BY PROGRAM, IN A SANDBOX (cutbox-door.mjs). By AI agents, Wed Nov 11 2026. No macro, syntax, notation, axiom, sorry.
-/
import Derived.Test.YtdopmlopafgonaaGreatDoorRows
import GoSem.ClaimSeven
namespace Go.Proofs.YtdopmlopafgonaaGreatDoor
namespace Rows

/-- THE TIED CARD OF 'shuntertop.TopQuick'. -/
def topQuickCard : Claim7 := { stood := { row := topQuickRow, standIns := [], harness := (true, "0c4d2c61c508658628df8b65677e0c4429a95b64c2a3c3c3431a870e07da5d01"), looks := false }, kinds := [], alts := [], laidByText := true, laidKinds := [.data], laidTests := true, laidLooks := .later }
def TopQuickCardSaid : Prop := Claim7.holds Tryz.pinned (.plain (OpenSpec.ofChange topQuickSpec)) topQuickCard

/-- THE TIED CARD OF 'shuntertop.TopOrder'. -/
def topOrderCard : Claim7 := { stood := { row := topOrderRow, standIns := [], harness := (true, "0c4d2c61c508658628df8b65677e0c4429a95b64c2a3c3c3431a870e07da5d01"), looks := false }, kinds := [], alts := [], laidByText := true, laidKinds := [.data], laidTests := true, laidLooks := .later }
def TopOrderCardSaid : Prop := Claim7.holds Tryz.pinned (.plain (OpenSpec.ofChange topOrderSpec)) topOrderCard

/-- THE SECOND FORM's CARD OF 'shuntertop.TopQuick'. -/
def topQuickUptoCard : Claim7 := { stood := { row := topQuickUptoRow, standIns := [], harness := (true, "0c4d2c61c508658628df8b65677e0c4429a95b64c2a3c3c3431a870e07da5d01"), looks := false }, kinds := [], alts := [], laidByText := true, laidKinds := [.data], laidTests := true, laidLooks := .later }
def TopQuickUptoCardSaid : Prop := Claim7.holds Tryz.pinned (.plain (OpenSpec.upto topQuickSpec)) topQuickUptoCard

/-- THE SECOND FORM's CARD OF 'shuntertop.TopOrder'. -/
def topOrderUptoCard : Claim7 := { stood := { row := topOrderUptoRow, standIns := [], harness := (true, "0c4d2c61c508658628df8b65677e0c4429a95b64c2a3c3c3431a870e07da5d01"), looks := false }, kinds := [], alts := [], laidByText := true, laidKinds := [.data], laidTests := true, laidLooks := .later }
def TopOrderUptoCardSaid : Prop := Claim7.holds Tryz.pinned (.plain (OpenSpec.upto topOrderSpec)) topOrderUptoCard
end Rows
end Go.Proofs.YtdopmlopafgonaaGreatDoor
