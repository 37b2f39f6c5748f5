/-
  DERIVED. GIVEN WITH THE SEED: THE CARDS: each row of YtkpmaajniagncaaGreatDoorRows.lean that lists a variable, with what it lists TIED to the program's text (the seventh form; the later family's looks); each row that meets fmt, with fmt's text TOLD by the authors' own Lean function (tested against real Go, not proved from fmt's source: count such statements apart). THE CARD IS WHAT COUNTS. Prove the row's statement (the work); the ties are given (YtkpmaajniagncaaGreatDoorTie.lean); close each card by the builder's one call (the guide's Derived/Test/ToyasCard.lean, 'card_holds'). Laid BY PROGRAM, IN A SANDBOX (cutbox-door.mjs). By AI agents, Wed Nov 11 2026. No macro, syntax, notation, axiom, sorry.
-/
import Derived.Test.YtkpmaajniagncaaGreatDoorRows
import GoSem.ClaimSeven
namespace Go.Proofs.YtkpmaajniagncaaGreatDoor
namespace Rows

/-- THE TIED CARD OF 'corsnedlaw46.LedgerSides'. -/
def ledgerSidesCard : Claim7 := { stood := { row := ledgerSidesRow, standIns := [], harness := (true, "6c0968ad68fe81de16560fff7f156f5234d9bb3871227829551bda03b1e9787b"), looks := true }, kinds := [], alts := [], laidByText := true, laidKinds := [.data, .data], laidTests := true, laidLooks := .later }
def LedgerSidesCardSaid : Prop := Claim7.holds Tryz.pinned (.plain (OpenSpec.ofChange ledgerSidesSpec)) ledgerSidesCard

/-- THE SECOND FORM's CARD OF 'corsnedlaw46.LedgerSides'. -/
def ledgerSidesUptoCard : Claim7 := { stood := { row := ledgerSidesUptoRow, standIns := [], harness := (true, "6c0968ad68fe81de16560fff7f156f5234d9bb3871227829551bda03b1e9787b"), looks := true }, kinds := [], alts := [], laidByText := true, laidKinds := [.data, .data], laidTests := true, laidLooks := .later }
def LedgerSidesUptoCardSaid : Prop := Claim7.holds Tryz.pinned (.plain (OpenSpec.upto ledgerSidesSpec)) ledgerSidesUptoCard
end Rows
end Go.Proofs.YtkpmaajniagncaaGreatDoor
