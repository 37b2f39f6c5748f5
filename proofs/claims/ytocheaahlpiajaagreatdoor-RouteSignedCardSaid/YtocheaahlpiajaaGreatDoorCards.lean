/-
  DERIVED. GIVEN WITH THE SEED: THE CARDS: each row of YtocheaahlpiajaaGreatDoorRows.lean that lists a variable, with what it lists TIED to the program's text (the seventh form; the later family's looks); each row that meets fmt, with fmt's text TOLD by the authors' own Lean function (tested against real Go, not proved from fmt's source: count such statements apart). THE CARD IS WHAT COUNTS. Prove the row's statement (the work); the ties are given (YtocheaahlpiajaaGreatDoorTie.lean); close each card by the builder's one call (the guide's Derived/Test/ToyasCard.lean, 'card_holds'). Laid BY PROGRAM, IN A SANDBOX (cutbox-door.mjs). By AI agents, Wed Nov 11 2026. No macro, syntax, notation, axiom, sorry.
-/
import Derived.Test.YtocheaahlpiajaaGreatDoorRows
import GoSem.ClaimSeven
namespace Go.Proofs.YtocheaahlpiajaaGreatDoor
namespace Rows

/-- THE TIED CARD OF 'corsnedlaw39.SplitShares'. -/
def splitSharesCard : Claim7 := { stood := { row := splitSharesRow, standIns := [], harness := (true, "6ec460ec8289769ce1e62c1c633bcf91a38e308fb69381cf3cc8c6a621cb99e3"), looks := true }, kinds := [], alts := [], laidByText := true, laidKinds := [.data, .data, .data], laidTests := true, laidLooks := .later }
def SplitSharesCardSaid : Prop := Claim7.holds Tryz.pinned (.plain (OpenSpec.ofChange splitSharesSpec)) splitSharesCard

/-- THE TIED CARD OF 'corsnedlaw39.SplitProofs'. -/
def splitProofsCard : Claim7 := { stood := { row := splitProofsRow, standIns := [], harness := (true, "6ec460ec8289769ce1e62c1c633bcf91a38e308fb69381cf3cc8c6a621cb99e3"), looks := true }, kinds := [], alts := [], laidByText := true, laidKinds := [.data, .data, .data], laidTests := true, laidLooks := .later }
def SplitProofsCardSaid : Prop := Claim7.holds Tryz.pinned (.plain (OpenSpec.ofChange splitProofsSpec)) splitProofsCard

/-- THE TIED CARD OF 'corsnedlaw39.SplitTells'. -/
def splitTellsCard : Claim7 := { stood := { row := splitTellsRow, standIns := [], harness := (true, "6ec460ec8289769ce1e62c1c633bcf91a38e308fb69381cf3cc8c6a621cb99e3"), looks := true }, kinds := [], alts := [], laidByText := true, laidKinds := [.data, .data, .data], laidTests := true, laidLooks := .later }
def SplitTellsCardSaid : Prop := Claim7.holds Tryz.pinned (.plain (OpenSpec.ofChange splitTellsSpec)) splitTellsCard

/-- THE TIED CARD OF 'corsnedlaw39.SplitFits'. -/
def splitFitsCard : Claim7 := { stood := { row := splitFitsRow, standIns := [], harness := (true, "6ec460ec8289769ce1e62c1c633bcf91a38e308fb69381cf3cc8c6a621cb99e3"), looks := true }, kinds := [], alts := [], laidByText := true, laidKinds := [.data, .data, .data], laidTests := true, laidLooks := .later }
def SplitFitsCardSaid : Prop := Claim7.holds Tryz.pinned (.plain (OpenSpec.ofChange splitFitsSpec)) splitFitsCard

/-- THE TIED CARD OF 'corsnedlaw39.SplitOne'. -/
def splitOneCard : Claim7 := { stood := { row := splitOneRow, standIns := [], harness := (true, "6ec460ec8289769ce1e62c1c633bcf91a38e308fb69381cf3cc8c6a621cb99e3"), looks := true }, kinds := [], alts := [], laidByText := true, laidKinds := [.data, .data, .data], laidTests := true, laidLooks := .later }
def SplitOneCardSaid : Prop := Claim7.holds Tryz.pinned (.plain (OpenSpec.ofChange splitOneSpec)) splitOneCard

/-- THE TIED CARD OF 'corsnedlaw39.SplitMore'. -/
def splitMoreCard : Claim7 := { stood := { row := splitMoreRow, standIns := [], harness := (true, "6ec460ec8289769ce1e62c1c633bcf91a38e308fb69381cf3cc8c6a621cb99e3"), looks := true }, kinds := [], alts := [], laidByText := true, laidKinds := [.data, .data, .data], laidTests := true, laidLooks := .later }
def SplitMoreCardSaid : Prop := Claim7.holds Tryz.pinned (.plain (OpenSpec.ofChange splitMoreSpec)) splitMoreCard

/-- THE TIED CARD OF 'corsnedlaw38.RoutePeels'. -/
def routePeelsCard : Claim7 := { stood := { row := routePeelsRow, standIns := [], harness := (true, "6ec460ec8289769ce1e62c1c633bcf91a38e308fb69381cf3cc8c6a621cb99e3"), looks := true }, kinds := [], alts := [], laidByText := true, laidKinds := [.data, .data, .data], laidTests := true, laidLooks := .later }
def RoutePeelsCardSaid : Prop := Claim7.holds Tryz.pinned (.plain (OpenSpec.ofChange routePeelsSpec)) routePeelsCard

/-- THE TIED CARD OF 'corsnedlaw39.SplitPeeled'. -/
def splitPeeledCard : Claim7 := { stood := { row := splitPeeledRow, standIns := [], harness := (true, "6ec460ec8289769ce1e62c1c633bcf91a38e308fb69381cf3cc8c6a621cb99e3"), looks := true }, kinds := [], alts := [], laidByText := true, laidKinds := [.data, .data, .data], laidTests := true, laidLooks := .later }
def SplitPeeledCardSaid : Prop := Claim7.holds Tryz.pinned (.plain (OpenSpec.ofChange splitPeeledSpec)) splitPeeledCard

/-- THE TIED CARD OF 'corsnedlaw39.SplitHeld'. -/
def splitHeldCard : Claim7 := { stood := { row := splitHeldRow, standIns := [], harness := (true, "6ec460ec8289769ce1e62c1c633bcf91a38e308fb69381cf3cc8c6a621cb99e3"), looks := true }, kinds := [], alts := [], laidByText := true, laidKinds := [.data, .data, .data], laidTests := true, laidLooks := .later }
def SplitHeldCardSaid : Prop := Claim7.holds Tryz.pinned (.plain (OpenSpec.ofChange splitHeldSpec)) splitHeldCard

/-- THE TIED CARD OF 'corsnedlaw38.RouteSigned'. -/
def routeSignedCard : Claim7 := { stood := { row := routeSignedRow, standIns := [], harness := (true, "6ec460ec8289769ce1e62c1c633bcf91a38e308fb69381cf3cc8c6a621cb99e3"), looks := true }, kinds := [], alts := [], laidByText := true, laidKinds := [.data, .data, .data], laidTests := true, laidLooks := .later }
def RouteSignedCardSaid : Prop := Claim7.holds Tryz.pinned (.plain (OpenSpec.ofChange routeSignedSpec)) routeSignedCard

/-- THE SECOND FORM's CARD OF 'corsnedlaw39.SplitShares'. -/
def splitSharesUptoCard : Claim7 := { stood := { row := splitSharesUptoRow, standIns := [], harness := (true, "6ec460ec8289769ce1e62c1c633bcf91a38e308fb69381cf3cc8c6a621cb99e3"), looks := true }, kinds := [], alts := [], laidByText := true, laidKinds := [.data, .data, .data], laidTests := true, laidLooks := .later }
def SplitSharesUptoCardSaid : Prop := Claim7.holds Tryz.pinned (.plain (OpenSpec.upto splitSharesSpec)) splitSharesUptoCard

/-- THE SECOND FORM's CARD OF 'corsnedlaw39.SplitProofs'. -/
def splitProofsUptoCard : Claim7 := { stood := { row := splitProofsUptoRow, standIns := [], harness := (true, "6ec460ec8289769ce1e62c1c633bcf91a38e308fb69381cf3cc8c6a621cb99e3"), looks := true }, kinds := [], alts := [], laidByText := true, laidKinds := [.data, .data, .data], laidTests := true, laidLooks := .later }
def SplitProofsUptoCardSaid : Prop := Claim7.holds Tryz.pinned (.plain (OpenSpec.upto splitProofsSpec)) splitProofsUptoCard

/-- THE SECOND FORM's CARD OF 'corsnedlaw39.SplitTells'. -/
def splitTellsUptoCard : Claim7 := { stood := { row := splitTellsUptoRow, standIns := [], harness := (true, "6ec460ec8289769ce1e62c1c633bcf91a38e308fb69381cf3cc8c6a621cb99e3"), looks := true }, kinds := [], alts := [], laidByText := true, laidKinds := [.data, .data, .data], laidTests := true, laidLooks := .later }
def SplitTellsUptoCardSaid : Prop := Claim7.holds Tryz.pinned (.plain (OpenSpec.upto splitTellsSpec)) splitTellsUptoCard

/-- THE SECOND FORM's CARD OF 'corsnedlaw39.SplitFits'. -/
def splitFitsUptoCard : Claim7 := { stood := { row := splitFitsUptoRow, standIns := [], harness := (true, "6ec460ec8289769ce1e62c1c633bcf91a38e308fb69381cf3cc8c6a621cb99e3"), looks := true }, kinds := [], alts := [], laidByText := true, laidKinds := [.data, .data, .data], laidTests := true, laidLooks := .later }
def SplitFitsUptoCardSaid : Prop := Claim7.holds Tryz.pinned (.plain (OpenSpec.upto splitFitsSpec)) splitFitsUptoCard

/-- THE SECOND FORM's CARD OF 'corsnedlaw39.SplitOne'. -/
def splitOneUptoCard : Claim7 := { stood := { row := splitOneUptoRow, standIns := [], harness := (true, "6ec460ec8289769ce1e62c1c633bcf91a38e308fb69381cf3cc8c6a621cb99e3"), looks := true }, kinds := [], alts := [], laidByText := true, laidKinds := [.data, .data, .data], laidTests := true, laidLooks := .later }
def SplitOneUptoCardSaid : Prop := Claim7.holds Tryz.pinned (.plain (OpenSpec.upto splitOneSpec)) splitOneUptoCard

/-- THE SECOND FORM's CARD OF 'corsnedlaw39.SplitMore'. -/
def splitMoreUptoCard : Claim7 := { stood := { row := splitMoreUptoRow, standIns := [], harness := (true, "6ec460ec8289769ce1e62c1c633bcf91a38e308fb69381cf3cc8c6a621cb99e3"), looks := true }, kinds := [], alts := [], laidByText := true, laidKinds := [.data, .data, .data], laidTests := true, laidLooks := .later }
def SplitMoreUptoCardSaid : Prop := Claim7.holds Tryz.pinned (.plain (OpenSpec.upto splitMoreSpec)) splitMoreUptoCard

/-- THE SECOND FORM's CARD OF 'corsnedlaw38.RoutePeels'. -/
def routePeelsUptoCard : Claim7 := { stood := { row := routePeelsUptoRow, standIns := [], harness := (true, "6ec460ec8289769ce1e62c1c633bcf91a38e308fb69381cf3cc8c6a621cb99e3"), looks := true }, kinds := [], alts := [], laidByText := true, laidKinds := [.data, .data, .data], laidTests := true, laidLooks := .later }
def RoutePeelsUptoCardSaid : Prop := Claim7.holds Tryz.pinned (.plain (OpenSpec.upto routePeelsSpec)) routePeelsUptoCard

/-- THE SECOND FORM's CARD OF 'corsnedlaw39.SplitPeeled'. -/
def splitPeeledUptoCard : Claim7 := { stood := { row := splitPeeledUptoRow, standIns := [], harness := (true, "6ec460ec8289769ce1e62c1c633bcf91a38e308fb69381cf3cc8c6a621cb99e3"), looks := true }, kinds := [], alts := [], laidByText := true, laidKinds := [.data, .data, .data], laidTests := true, laidLooks := .later }
def SplitPeeledUptoCardSaid : Prop := Claim7.holds Tryz.pinned (.plain (OpenSpec.upto splitPeeledSpec)) splitPeeledUptoCard

/-- THE SECOND FORM's CARD OF 'corsnedlaw39.SplitHeld'. -/
def splitHeldUptoCard : Claim7 := { stood := { row := splitHeldUptoRow, standIns := [], harness := (true, "6ec460ec8289769ce1e62c1c633bcf91a38e308fb69381cf3cc8c6a621cb99e3"), looks := true }, kinds := [], alts := [], laidByText := true, laidKinds := [.data, .data, .data], laidTests := true, laidLooks := .later }
def SplitHeldUptoCardSaid : Prop := Claim7.holds Tryz.pinned (.plain (OpenSpec.upto splitHeldSpec)) splitHeldUptoCard

/-- THE SECOND FORM's CARD OF 'corsnedlaw38.RouteSigned'. -/
def routeSignedUptoCard : Claim7 := { stood := { row := routeSignedUptoRow, standIns := [], harness := (true, "6ec460ec8289769ce1e62c1c633bcf91a38e308fb69381cf3cc8c6a621cb99e3"), looks := true }, kinds := [], alts := [], laidByText := true, laidKinds := [.data, .data, .data], laidTests := true, laidLooks := .later }
def RouteSignedUptoCardSaid : Prop := Claim7.holds Tryz.pinned (.plain (OpenSpec.upto routeSignedSpec)) routeSignedUptoCard
end Rows
end Go.Proofs.YtocheaahlpiajaaGreatDoor
