/-
  DERIVED. GIVEN WITH THE SEED: THE CARDS: each row of YtmkdeemjkcigkaaGreatDoorRows.lean that lists a variable, with what it lists TIED to the program's text (the seventh form; the later family's looks); each row that meets fmt, with fmt's text TOLD by the authors' own Lean function (tested against real Go, not proved from fmt's source: count such statements apart). THE CARD IS WHAT COUNTS. Prove the row's statement (the work); the ties are given (YtmkdeemjkcigkaaGreatDoorTie.lean); close each card by the builder's one call (the guide's Derived/Test/ToyasCard.lean, 'card_holds'). Laid BY PROGRAM, IN A SANDBOX (cutbox-door.mjs). By AI agents, Wed Nov 11 2026. No macro, syntax, notation, axiom, sorry.
-/
import Derived.Test.YtmkdeemjkcigkaaGreatDoorRows
import GoSem.ClaimSeven
namespace Go.Proofs.YtmkdeemjkcigkaaGreatDoor
namespace Rows

/-- THE TIED CARD OF 'corsnedlaw38.RouteTells'. -/
def routeTellsCard : Claim7 := { stood := { row := routeTellsRow, standIns := [], harness := (true, "05ea291f6ab7e03e0b10b9e8daed6dafa3dcce46469a9935efeb55134a76989d"), looks := true }, kinds := [], alts := [], laidByText := true, laidKinds := [.data, .data, .data], laidTests := true, laidLooks := .later }
def RouteTellsCardSaid : Prop := Claim7.holds Tryz.pinned (.plain (OpenSpec.ofChange routeTellsSpec)) routeTellsCard

/-- THE TIED CARD OF 'corsnedlaw38.RouteMore'. -/
def routeMoreCard : Claim7 := { stood := { row := routeMoreRow, standIns := [], harness := (true, "05ea291f6ab7e03e0b10b9e8daed6dafa3dcce46469a9935efeb55134a76989d"), looks := true }, kinds := [], alts := [], laidByText := true, laidKinds := [.data, .data, .data], laidTests := true, laidLooks := .later }
def RouteMoreCardSaid : Prop := Claim7.holds Tryz.pinned (.plain (OpenSpec.ofChange routeMoreSpec)) routeMoreCard

/-- THE TIED CARD OF 'corsnedlaw38.RouteBest'. -/
def routeBestCard : Claim7 := { stood := { row := routeBestRow, standIns := [], harness := (true, "05ea291f6ab7e03e0b10b9e8daed6dafa3dcce46469a9935efeb55134a76989d"), looks := true }, kinds := [], alts := [], laidByText := true, laidKinds := [.data, .data, .data], laidTests := true, laidLooks := .later }
def RouteBestCardSaid : Prop := Claim7.holds Tryz.pinned (.plain (OpenSpec.ofChange routeBestSpec)) routeBestCard

/-- THE TIED CARD OF 'corsnedlaw38.RouteLearns'. -/
def routeLearnsCard : Claim7 := { stood := { row := routeLearnsRow, standIns := [], harness := (true, "05ea291f6ab7e03e0b10b9e8daed6dafa3dcce46469a9935efeb55134a76989d"), looks := true }, kinds := [], alts := [], laidByText := true, laidKinds := [.data, .data, .data], laidTests := true, laidLooks := .later }
def RouteLearnsCardSaid : Prop := Claim7.holds Tryz.pinned (.plain (OpenSpec.ofChange routeLearnsSpec)) routeLearnsCard

/-- THE SECOND FORM's CARD OF 'corsnedlaw38.RouteTells'. -/
def routeTellsUptoCard : Claim7 := { stood := { row := routeTellsUptoRow, standIns := [], harness := (true, "05ea291f6ab7e03e0b10b9e8daed6dafa3dcce46469a9935efeb55134a76989d"), looks := true }, kinds := [], alts := [], laidByText := true, laidKinds := [.data, .data, .data], laidTests := true, laidLooks := .later }
def RouteTellsUptoCardSaid : Prop := Claim7.holds Tryz.pinned (.plain (OpenSpec.upto routeTellsSpec)) routeTellsUptoCard

/-- THE SECOND FORM's CARD OF 'corsnedlaw38.RouteMore'. -/
def routeMoreUptoCard : Claim7 := { stood := { row := routeMoreUptoRow, standIns := [], harness := (true, "05ea291f6ab7e03e0b10b9e8daed6dafa3dcce46469a9935efeb55134a76989d"), looks := true }, kinds := [], alts := [], laidByText := true, laidKinds := [.data, .data, .data], laidTests := true, laidLooks := .later }
def RouteMoreUptoCardSaid : Prop := Claim7.holds Tryz.pinned (.plain (OpenSpec.upto routeMoreSpec)) routeMoreUptoCard

/-- THE SECOND FORM's CARD OF 'corsnedlaw38.RouteBest'. -/
def routeBestUptoCard : Claim7 := { stood := { row := routeBestUptoRow, standIns := [], harness := (true, "05ea291f6ab7e03e0b10b9e8daed6dafa3dcce46469a9935efeb55134a76989d"), looks := true }, kinds := [], alts := [], laidByText := true, laidKinds := [.data, .data, .data], laidTests := true, laidLooks := .later }
def RouteBestUptoCardSaid : Prop := Claim7.holds Tryz.pinned (.plain (OpenSpec.upto routeBestSpec)) routeBestUptoCard

/-- THE SECOND FORM's CARD OF 'corsnedlaw38.RouteLearns'. -/
def routeLearnsUptoCard : Claim7 := { stood := { row := routeLearnsUptoRow, standIns := [], harness := (true, "05ea291f6ab7e03e0b10b9e8daed6dafa3dcce46469a9935efeb55134a76989d"), looks := true }, kinds := [], alts := [], laidByText := true, laidKinds := [.data, .data, .data], laidTests := true, laidLooks := .later }
def RouteLearnsUptoCardSaid : Prop := Claim7.holds Tryz.pinned (.plain (OpenSpec.upto routeLearnsSpec)) routeLearnsUptoCard
end Rows
end Go.Proofs.YtmkdeemjkcigkaaGreatDoor
