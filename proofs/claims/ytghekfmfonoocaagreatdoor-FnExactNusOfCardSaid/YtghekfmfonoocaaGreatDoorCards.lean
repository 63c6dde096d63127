/-
  DERIVED. GIVEN WITH THE SEED: THE CARDS: each row of YtghekfmfonoocaaGreatDoorRows.lean that lists a variable, with what it lists TIED to the program's text (the seventh form; the later family's looks); each row that meets fmt, with fmt's text TOLD by the authors' own Lean function (tested against real Go, not proved from fmt's source: count such statements apart). THE CARD IS WHAT COUNTS. Prove the row's statement (the work); the ties are given (YtghekfmfonoocaaGreatDoorTie.lean); close each card by the builder's one call (the guide's Derived/Test/ToyasCard.lean, 'card_holds'). Laid BY PROGRAM, IN A SANDBOX (cutbox-door.mjs). By AI agents, Wed Nov 11 2026. No macro, syntax, notation, axiom, sorry.
-/
import Derived.Test.YtghekfmfonoocaaGreatDoorRows
import GoSem.ClaimSeven
namespace Go.Proofs.YtghekfmfonoocaaGreatDoor
namespace Rows

/-- THE TIED CARD OF 'laws.FnExactNusForm'. -/
def fnExactNusFormCard : Claim7 := { stood := { row := fnExactNusFormRow, standIns := [], harness := (true, "5fa359b626dd8f1ba8726b0f5e50beabe5b5b5b79cb78ad033c8e3e3ab0e1335"), looks := false }, kinds := [], alts := [], laidByText := true, laidKinds := [.data, .data, .data], laidTests := true, laidLooks := .later }
def FnExactNusFormCardSaid : Prop := Claim7.holds Tryz.pinned (.plain (OpenSpec.ofChange fnExactNusFormSpec)) fnExactNusFormCard

/-- THE TIED CARD OF 'laws.FnExactNusOf'. -/
def fnExactNusOfCard : Claim7 := { stood := { row := fnExactNusOfRow, standIns := [], harness := (true, "5fa359b626dd8f1ba8726b0f5e50beabe5b5b5b79cb78ad033c8e3e3ab0e1335"), looks := false }, kinds := [], alts := [], laidByText := true, laidKinds := [.data, .data, .data], laidTests := true, laidLooks := .later }
def FnExactNusOfCardSaid : Prop := Claim7.holds Tryz.pinned (.plain (OpenSpec.ofChange fnExactNusOfSpec)) fnExactNusOfCard

/-- THE TIED CARD OF 'laws.FnNus'. -/
def fnNusCard : Claim7 := { stood := { row := fnNusRow, standIns := [], harness := (true, "5fa359b626dd8f1ba8726b0f5e50beabe5b5b5b79cb78ad033c8e3e3ab0e1335"), looks := false }, kinds := [], alts := [], laidByText := true, laidKinds := [.data, .data, .data], laidTests := true, laidLooks := .later }
def FnNusCardSaid : Prop := Claim7.holds Tryz.pinned (.plain (OpenSpec.ofChange fnNusSpec)) fnNusCard

/-- THE SECOND FORM's CARD OF 'laws.FnExactNusForm'. -/
def fnExactNusFormUptoCard : Claim7 := { stood := { row := fnExactNusFormUptoRow, standIns := [], harness := (true, "5fa359b626dd8f1ba8726b0f5e50beabe5b5b5b79cb78ad033c8e3e3ab0e1335"), looks := false }, kinds := [], alts := [], laidByText := true, laidKinds := [.data, .data, .data], laidTests := true, laidLooks := .later }
def FnExactNusFormUptoCardSaid : Prop := Claim7.holds Tryz.pinned (.plain (OpenSpec.upto fnExactNusFormSpec)) fnExactNusFormUptoCard

/-- THE SECOND FORM's CARD OF 'laws.FnExactNusOf'. -/
def fnExactNusOfUptoCard : Claim7 := { stood := { row := fnExactNusOfUptoRow, standIns := [], harness := (true, "5fa359b626dd8f1ba8726b0f5e50beabe5b5b5b79cb78ad033c8e3e3ab0e1335"), looks := false }, kinds := [], alts := [], laidByText := true, laidKinds := [.data, .data, .data], laidTests := true, laidLooks := .later }
def FnExactNusOfUptoCardSaid : Prop := Claim7.holds Tryz.pinned (.plain (OpenSpec.upto fnExactNusOfSpec)) fnExactNusOfUptoCard

/-- THE SECOND FORM's CARD OF 'laws.FnNus'. -/
def fnNusUptoCard : Claim7 := { stood := { row := fnNusUptoRow, standIns := [], harness := (true, "5fa359b626dd8f1ba8726b0f5e50beabe5b5b5b79cb78ad033c8e3e3ab0e1335"), looks := false }, kinds := [], alts := [], laidByText := true, laidKinds := [.data, .data, .data], laidTests := true, laidLooks := .later }
def FnNusUptoCardSaid : Prop := Claim7.holds Tryz.pinned (.plain (OpenSpec.upto fnNusSpec)) fnNusUptoCard
end Rows
end Go.Proofs.YtghekfmfonoocaaGreatDoor
