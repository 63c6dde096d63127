/-
  DERIVED. GIVEN WITH THE SEED: THE CARDS: each row of YtlapkmhemepcaaaGreatDoorRows.lean that lists a variable, with what it lists TIED to the program's text (the seventh form; the later family's looks); each row that meets fmt, with fmt's text TOLD by the authors' own Lean function (tested against real Go, not proved from fmt's source: count such statements apart). THE CARD IS WHAT COUNTS. Prove the row's statement (the work); the ties are given (YtlapkmhemepcaaaGreatDoorTie.lean); close each card by the builder's one call (the guide's Derived/Test/ToyasCard.lean, 'card_holds'). Laid BY PROGRAM, IN A SANDBOX (cutbox-door.mjs). By AI agents, Wed Nov 11 2026. No macro, syntax, notation, axiom, sorry.
-/
import Derived.Test.YtlapkmhemepcaaaGreatDoorRows
import GoSem.ClaimSeven
namespace Go.Proofs.YtlapkmhemepcaaaGreatDoor
namespace Rows

/-- THE TIED CARD OF 'laws.FnStops'. -/
def fnStopsCard : Claim7 := { stood := { row := fnStopsRow, standIns := [], harness := (true, "a634aa62ed00416fe353f4f59078e718e5505198c892fbcde8029d9861914bb1"), looks := false }, kinds := [], alts := [], laidByText := true, laidKinds := [.data, .data, .data], laidTests := true, laidLooks := .later }
def FnStopsCardSaid : Prop := Claim7.holds Tryz.pinned (.plain (OpenSpec.ofChange fnStopsSpec)) fnStopsCard

/-- THE TIED CARD OF 'laws.FnConfused'. -/
def fnConfusedCard : Claim7 := { stood := { row := fnConfusedRow, standIns := [], harness := (true, "a634aa62ed00416fe353f4f59078e718e5505198c892fbcde8029d9861914bb1"), looks := false }, kinds := [], alts := [], laidByText := true, laidKinds := [.data, .data, .data], laidTests := true, laidLooks := .later }
def FnConfusedCardSaid : Prop := Claim7.holds Tryz.pinned (.plain (OpenSpec.ofChange fnConfusedSpec)) fnConfusedCard

/-- THE TIED CARD OF 'laws.FnStopSums'. -/
def fnStopSumsCard : Claim7 := { stood := { row := fnStopSumsRow, standIns := [], harness := (true, "a634aa62ed00416fe353f4f59078e718e5505198c892fbcde8029d9861914bb1"), looks := false }, kinds := [], alts := [], laidByText := true, laidKinds := [.data, .data, .data], laidTests := true, laidLooks := .later }
def FnStopSumsCardSaid : Prop := Claim7.holds Tryz.pinned (.plain (OpenSpec.ofChange fnStopSumsSpec)) fnStopSumsCard

/-- THE TIED CARD OF 'laws.FnExactUpsOf'. -/
def fnExactUpsOfCard : Claim7 := { stood := { row := fnExactUpsOfRow, standIns := [], harness := (true, "a634aa62ed00416fe353f4f59078e718e5505198c892fbcde8029d9861914bb1"), looks := false }, kinds := [], alts := [], laidByText := true, laidKinds := [.data, .data, .data], laidTests := true, laidLooks := .later }
def FnExactUpsOfCardSaid : Prop := Claim7.holds Tryz.pinned (.plain (OpenSpec.ofChange fnExactUpsOfSpec)) fnExactUpsOfCard

/-- THE TIED CARD OF 'laws.FnUps'. -/
def fnUpsCard : Claim7 := { stood := { row := fnUpsRow, standIns := [], harness := (true, "a634aa62ed00416fe353f4f59078e718e5505198c892fbcde8029d9861914bb1"), looks := false }, kinds := [], alts := [], laidByText := true, laidKinds := [.data, .data, .data], laidTests := true, laidLooks := .later }
def FnUpsCardSaid : Prop := Claim7.holds Tryz.pinned (.plain (OpenSpec.ofChange fnUpsSpec)) fnUpsCard

/-- THE TIED CARD OF 'laws.FnSwitch'. -/
def fnSwitchCard : Claim7 := { stood := { row := fnSwitchRow, standIns := [], harness := (true, "a634aa62ed00416fe353f4f59078e718e5505198c892fbcde8029d9861914bb1"), looks := false }, kinds := [], alts := [], laidByText := true, laidKinds := [.data, .data, .data], laidTests := true, laidLooks := .later }
def FnSwitchCardSaid : Prop := Claim7.holds Tryz.pinned (.plain (OpenSpec.ofChange fnSwitchSpec)) fnSwitchCard

/-- THE SECOND FORM's CARD OF 'laws.FnStops'. -/
def fnStopsUptoCard : Claim7 := { stood := { row := fnStopsUptoRow, standIns := [], harness := (true, "a634aa62ed00416fe353f4f59078e718e5505198c892fbcde8029d9861914bb1"), looks := false }, kinds := [], alts := [], laidByText := true, laidKinds := [.data, .data, .data], laidTests := true, laidLooks := .later }
def FnStopsUptoCardSaid : Prop := Claim7.holds Tryz.pinned (.plain (OpenSpec.upto fnStopsSpec)) fnStopsUptoCard

/-- THE SECOND FORM's CARD OF 'laws.FnConfused'. -/
def fnConfusedUptoCard : Claim7 := { stood := { row := fnConfusedUptoRow, standIns := [], harness := (true, "a634aa62ed00416fe353f4f59078e718e5505198c892fbcde8029d9861914bb1"), looks := false }, kinds := [], alts := [], laidByText := true, laidKinds := [.data, .data, .data], laidTests := true, laidLooks := .later }
def FnConfusedUptoCardSaid : Prop := Claim7.holds Tryz.pinned (.plain (OpenSpec.upto fnConfusedSpec)) fnConfusedUptoCard

/-- THE SECOND FORM's CARD OF 'laws.FnStopSums'. -/
def fnStopSumsUptoCard : Claim7 := { stood := { row := fnStopSumsUptoRow, standIns := [], harness := (true, "a634aa62ed00416fe353f4f59078e718e5505198c892fbcde8029d9861914bb1"), looks := false }, kinds := [], alts := [], laidByText := true, laidKinds := [.data, .data, .data], laidTests := true, laidLooks := .later }
def FnStopSumsUptoCardSaid : Prop := Claim7.holds Tryz.pinned (.plain (OpenSpec.upto fnStopSumsSpec)) fnStopSumsUptoCard

/-- THE SECOND FORM's CARD OF 'laws.FnExactUpsOf'. -/
def fnExactUpsOfUptoCard : Claim7 := { stood := { row := fnExactUpsOfUptoRow, standIns := [], harness := (true, "a634aa62ed00416fe353f4f59078e718e5505198c892fbcde8029d9861914bb1"), looks := false }, kinds := [], alts := [], laidByText := true, laidKinds := [.data, .data, .data], laidTests := true, laidLooks := .later }
def FnExactUpsOfUptoCardSaid : Prop := Claim7.holds Tryz.pinned (.plain (OpenSpec.upto fnExactUpsOfSpec)) fnExactUpsOfUptoCard

/-- THE SECOND FORM's CARD OF 'laws.FnUps'. -/
def fnUpsUptoCard : Claim7 := { stood := { row := fnUpsUptoRow, standIns := [], harness := (true, "a634aa62ed00416fe353f4f59078e718e5505198c892fbcde8029d9861914bb1"), looks := false }, kinds := [], alts := [], laidByText := true, laidKinds := [.data, .data, .data], laidTests := true, laidLooks := .later }
def FnUpsUptoCardSaid : Prop := Claim7.holds Tryz.pinned (.plain (OpenSpec.upto fnUpsSpec)) fnUpsUptoCard

/-- THE SECOND FORM's CARD OF 'laws.FnSwitch'. -/
def fnSwitchUptoCard : Claim7 := { stood := { row := fnSwitchUptoRow, standIns := [], harness := (true, "a634aa62ed00416fe353f4f59078e718e5505198c892fbcde8029d9861914bb1"), looks := false }, kinds := [], alts := [], laidByText := true, laidKinds := [.data, .data, .data], laidTests := true, laidLooks := .later }
def FnSwitchUptoCardSaid : Prop := Claim7.holds Tryz.pinned (.plain (OpenSpec.upto fnSwitchSpec)) fnSwitchUptoCard
end Rows
end Go.Proofs.YtlapkmhemepcaaaGreatDoor
