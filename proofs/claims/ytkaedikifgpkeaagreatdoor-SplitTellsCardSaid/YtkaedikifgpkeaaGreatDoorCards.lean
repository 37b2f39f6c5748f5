/-
  DERIVED. GIVEN WITH THE SEED: THE CARDS: each row of YtkaedikifgpkeaaGreatDoorRows.lean that lists a variable, with what it lists TIED to the program's text (the seventh form; the later family's looks); each row that meets fmt, with fmt's text TOLD by the authors' own Lean function (tested against real Go, not proved from fmt's source: count such statements apart). THE CARD IS WHAT COUNTS. Prove the row's statement (the work); the ties are given (YtkaedikifgpkeaaGreatDoorTie.lean); close each card by the builder's one call (the guide's Derived/Test/ToyasCard.lean, 'card_holds'). Laid BY PROGRAM, IN A SANDBOX (cutbox-door.mjs). By AI agents, Wed Nov 11 2026. No macro, syntax, notation, axiom, sorry.
-/
import Derived.Test.YtkaedikifgpkeaaGreatDoorRows
import GoSem.ClaimSeven
namespace Go.Proofs.YtkaedikifgpkeaaGreatDoor
namespace Rows

/-- THE TIED CARD OF 'corsnedlaw39.SplitTells'. -/
def splitTellsCard : Claim7 := { stood := { row := splitTellsRow, standIns := [], harness := (true, "fcfe413099a55a5621dde62b5bdb586cb37ba6523c7eb10da6d5a21bf6dc6e7c"), looks := true }, kinds := [], alts := [], laidByText := true, laidKinds := [.data, .data, .data], laidTests := true, laidLooks := .later }
def SplitTellsCardSaid : Prop := Claim7.holds Tryz.pinned (.plain (OpenSpec.ofChange splitTellsSpec)) splitTellsCard

/-- THE SECOND FORM's CARD OF 'corsnedlaw39.SplitTells'. -/
def splitTellsUptoCard : Claim7 := { stood := { row := splitTellsUptoRow, standIns := [], harness := (true, "fcfe413099a55a5621dde62b5bdb586cb37ba6523c7eb10da6d5a21bf6dc6e7c"), looks := true }, kinds := [], alts := [], laidByText := true, laidKinds := [.data, .data, .data], laidTests := true, laidLooks := .later }
def SplitTellsUptoCardSaid : Prop := Claim7.holds Tryz.pinned (.plain (OpenSpec.upto splitTellsSpec)) splitTellsUptoCard
end Rows
end Go.Proofs.YtkaedikifgpkeaaGreatDoor
