/-
  DERIVED. GIVEN WITH THE SEED: THE CARDS: each row of YtknniemfpkjnbaaGreatDoorRows.lean that lists a variable, with what it lists TIED to the program's text (the seventh form; the later family's looks); each row that meets fmt, with fmt's text TOLD by the authors' own Lean function (tested against real Go, not proved from fmt's source: count such statements apart). THE CARD IS WHAT COUNTS. Prove the row's statement (the work); the ties are given (YtknniemfpkjnbaaGreatDoorTie.lean); close each card by the builder's one call (the guide's Derived/Test/ToyasCard.lean, 'card_holds'). Laid BY PROGRAM, IN A SANDBOX (cutbox-door.mjs). By AI agents, Wed Nov 11 2026. No macro, syntax, notation, axiom, sorry.
-/
import Derived.Test.YtknniemfpkjnbaaGreatDoorRows
import GoSem.ClaimSeven
namespace Go.Proofs.YtknniemfpkjnbaaGreatDoor
namespace Rows

/-- THE TIED CARD OF 'laws.FnExactStopLine'. -/
def fnExactStopLineCard : Claim7 := { stood := { row := fnExactStopLineRow, standIns := [], harness := (true, "87f032533c0571b276d79b10cf2fd332623f0c6a2d3c221bf12be2b7777f653c"), looks := false }, kinds := [], alts := [], laidByText := true, laidKinds := [.data, .data, .data], laidTests := true, laidLooks := .later }
def FnExactStopLineCardSaid : Prop := Claim7.holds Tryz.pinned (.plain (OpenSpec.ofChange fnExactStopLineSpec)) fnExactStopLineCard

/-- THE TIED CARD OF 'laws.FnStopLine'. -/
def fnStopLineCard : Claim7 := { stood := { row := fnStopLineRow, standIns := [], harness := (true, "87f032533c0571b276d79b10cf2fd332623f0c6a2d3c221bf12be2b7777f653c"), looks := false }, kinds := [], alts := [], laidByText := true, laidKinds := [.data, .data, .data], laidTests := true, laidLooks := .later }
def FnStopLineCardSaid : Prop := Claim7.holds Tryz.pinned (.plain (OpenSpec.ofChange fnStopLineSpec)) fnStopLineCard

/-- THE TIED CARD OF 'laws.FnStops'. -/
def fnStopsCard : Claim7 := { stood := { row := fnStopsRow, standIns := [], harness := (true, "87f032533c0571b276d79b10cf2fd332623f0c6a2d3c221bf12be2b7777f653c"), looks := false }, kinds := [], alts := [], laidByText := true, laidKinds := [.data, .data, .data], laidTests := true, laidLooks := .later }
def FnStopsCardSaid : Prop := Claim7.holds Tryz.pinned (.plain (OpenSpec.ofChange fnStopsSpec)) fnStopsCard

/-- THE TIED CARD OF 'laws.FnConfused'. -/
def fnConfusedCard : Claim7 := { stood := { row := fnConfusedRow, standIns := [], harness := (true, "87f032533c0571b276d79b10cf2fd332623f0c6a2d3c221bf12be2b7777f653c"), looks := false }, kinds := [], alts := [], laidByText := true, laidKinds := [.data, .data, .data], laidTests := true, laidLooks := .later }
def FnConfusedCardSaid : Prop := Claim7.holds Tryz.pinned (.plain (OpenSpec.ofChange fnConfusedSpec)) fnConfusedCard

/-- THE TIED CARD OF 'laws.FnStopSums'. -/
def fnStopSumsCard : Claim7 := { stood := { row := fnStopSumsRow, standIns := [], harness := (true, "87f032533c0571b276d79b10cf2fd332623f0c6a2d3c221bf12be2b7777f653c"), looks := false }, kinds := [], alts := [], laidByText := true, laidKinds := [.data, .data, .data], laidTests := true, laidLooks := .later }
def FnStopSumsCardSaid : Prop := Claim7.holds Tryz.pinned (.plain (OpenSpec.ofChange fnStopSumsSpec)) fnStopSumsCard

/-- THE SECOND FORM's CARD OF 'laws.FnExactStopLine'. -/
def fnExactStopLineUptoCard : Claim7 := { stood := { row := fnExactStopLineUptoRow, standIns := [], harness := (true, "87f032533c0571b276d79b10cf2fd332623f0c6a2d3c221bf12be2b7777f653c"), looks := false }, kinds := [], alts := [], laidByText := true, laidKinds := [.data, .data, .data], laidTests := true, laidLooks := .later }
def FnExactStopLineUptoCardSaid : Prop := Claim7.holds Tryz.pinned (.plain (OpenSpec.upto fnExactStopLineSpec)) fnExactStopLineUptoCard

/-- THE SECOND FORM's CARD OF 'laws.FnStopLine'. -/
def fnStopLineUptoCard : Claim7 := { stood := { row := fnStopLineUptoRow, standIns := [], harness := (true, "87f032533c0571b276d79b10cf2fd332623f0c6a2d3c221bf12be2b7777f653c"), looks := false }, kinds := [], alts := [], laidByText := true, laidKinds := [.data, .data, .data], laidTests := true, laidLooks := .later }
def FnStopLineUptoCardSaid : Prop := Claim7.holds Tryz.pinned (.plain (OpenSpec.upto fnStopLineSpec)) fnStopLineUptoCard

/-- THE SECOND FORM's CARD OF 'laws.FnStops'. -/
def fnStopsUptoCard : Claim7 := { stood := { row := fnStopsUptoRow, standIns := [], harness := (true, "87f032533c0571b276d79b10cf2fd332623f0c6a2d3c221bf12be2b7777f653c"), looks := false }, kinds := [], alts := [], laidByText := true, laidKinds := [.data, .data, .data], laidTests := true, laidLooks := .later }
def FnStopsUptoCardSaid : Prop := Claim7.holds Tryz.pinned (.plain (OpenSpec.upto fnStopsSpec)) fnStopsUptoCard

/-- THE SECOND FORM's CARD OF 'laws.FnConfused'. -/
def fnConfusedUptoCard : Claim7 := { stood := { row := fnConfusedUptoRow, standIns := [], harness := (true, "87f032533c0571b276d79b10cf2fd332623f0c6a2d3c221bf12be2b7777f653c"), looks := false }, kinds := [], alts := [], laidByText := true, laidKinds := [.data, .data, .data], laidTests := true, laidLooks := .later }
def FnConfusedUptoCardSaid : Prop := Claim7.holds Tryz.pinned (.plain (OpenSpec.upto fnConfusedSpec)) fnConfusedUptoCard

/-- THE SECOND FORM's CARD OF 'laws.FnStopSums'. -/
def fnStopSumsUptoCard : Claim7 := { stood := { row := fnStopSumsUptoRow, standIns := [], harness := (true, "87f032533c0571b276d79b10cf2fd332623f0c6a2d3c221bf12be2b7777f653c"), looks := false }, kinds := [], alts := [], laidByText := true, laidKinds := [.data, .data, .data], laidTests := true, laidLooks := .later }
def FnStopSumsUptoCardSaid : Prop := Claim7.holds Tryz.pinned (.plain (OpenSpec.upto fnStopSumsSpec)) fnStopSumsUptoCard
end Rows
end Go.Proofs.YtknniemfpkjnbaaGreatDoor
