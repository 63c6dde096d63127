/-
  DERIVED. GIVEN WITH THE SEED: THE CARDS: each row of YtioiljboihehcaaGreatDoorRows.lean that lists a variable, with what it lists TIED to the program's text (the seventh form; the later family's looks); each row that meets fmt, with fmt's text TOLD by the authors' own Lean function (tested against real Go, not proved from fmt's source: count such statements apart). THE CARD IS WHAT COUNTS. Prove the row's statement (the work); the ties are given (YtioiljboihehcaaGreatDoorTie.lean); close each card by the builder's one call (the guide's Derived/Test/ToyasCard.lean, 'card_holds'). Laid BY PROGRAM, IN A SANDBOX (cutbox-door.mjs). By AI agents, Wed Nov 11 2026. No macro, syntax, notation, axiom, sorry.
-/
import Derived.Test.YtioiljboihehcaaGreatDoorRows
import GoSem.ClaimSeven
namespace Go.Proofs.YtioiljboihehcaaGreatDoor
namespace Rows

/-- THE TIED CARD OF 'laws.FnExactCanonOf'. -/
def fnExactCanonOfCard : Claim7 := { stood := { row := fnExactCanonOfRow, standIns := [], harness := (true, "d3e616db9c318a608281409ffe0609ac3d8331e3273f6379e65891b3659ad9b5"), looks := false }, kinds := [], alts := [], laidByText := true, laidKinds := [.data, .data, .data], laidTests := true, laidLooks := .later }
def FnExactCanonOfCardSaid : Prop := Claim7.holds Tryz.pinned (.plain (OpenSpec.ofChange fnExactCanonOfSpec)) fnExactCanonOfCard

/-- THE TIED CARD OF 'laws.FnTimes'. -/
def fnTimesCard : Claim7 := { stood := { row := fnTimesRow, standIns := [], harness := (true, "d3e616db9c318a608281409ffe0609ac3d8331e3273f6379e65891b3659ad9b5"), looks := false }, kinds := [], alts := [], laidByText := true, laidKinds := [.data, .data, .data], laidTests := true, laidLooks := .later }
def FnTimesCardSaid : Prop := Claim7.holds Tryz.pinned (.plain (OpenSpec.ofChange fnTimesSpec)) fnTimesCard

/-- THE TIED CARD OF 'laws.FnMinus'. -/
def fnMinusCard : Claim7 := { stood := { row := fnMinusRow, standIns := [], harness := (true, "d3e616db9c318a608281409ffe0609ac3d8331e3273f6379e65891b3659ad9b5"), looks := false }, kinds := [], alts := [], laidByText := true, laidKinds := [.data, .data, .data], laidTests := true, laidLooks := .later }
def FnMinusCardSaid : Prop := Claim7.holds Tryz.pinned (.plain (OpenSpec.ofChange fnMinusSpec)) fnMinusCard

/-- THE TIED CARD OF 'laws.FnGroup'. -/
def fnGroupCard : Claim7 := { stood := { row := fnGroupRow, standIns := [], harness := (true, "d3e616db9c318a608281409ffe0609ac3d8331e3273f6379e65891b3659ad9b5"), looks := false }, kinds := [], alts := [], laidByText := true, laidKinds := [.data, .data, .data], laidTests := true, laidLooks := .later }
def FnGroupCardSaid : Prop := Claim7.holds Tryz.pinned (.plain (OpenSpec.ofChange fnGroupSpec)) fnGroupCard

/-- THE TIED CARD OF 'laws.FnSteps'. -/
def fnStepsCard : Claim7 := { stood := { row := fnStepsRow, standIns := [], harness := (true, "d3e616db9c318a608281409ffe0609ac3d8331e3273f6379e65891b3659ad9b5"), looks := false }, kinds := [], alts := [], laidByText := true, laidKinds := [.data, .data, .data], laidTests := true, laidLooks := .later }
def FnStepsCardSaid : Prop := Claim7.holds Tryz.pinned (.plain (OpenSpec.ofChange fnStepsSpec)) fnStepsCard

/-- THE TIED CARD OF 'laws.FnOneForm'. -/
def fnOneFormCard : Claim7 := { stood := { row := fnOneFormRow, standIns := [], harness := (true, "d3e616db9c318a608281409ffe0609ac3d8331e3273f6379e65891b3659ad9b5"), looks := false }, kinds := [], alts := [], laidByText := true, laidKinds := [.data, .data, .data], laidTests := true, laidLooks := .later }
def FnOneFormCardSaid : Prop := Claim7.holds Tryz.pinned (.plain (OpenSpec.ofChange fnOneFormSpec)) fnOneFormCard

/-- THE TIED CARD OF 'laws.FnTop'. -/
def fnTopCard : Claim7 := { stood := { row := fnTopRow, standIns := [], harness := (true, "d3e616db9c318a608281409ffe0609ac3d8331e3273f6379e65891b3659ad9b5"), looks := false }, kinds := [], alts := [], laidByText := true, laidKinds := [.data, .data, .data], laidTests := true, laidLooks := .later }
def FnTopCardSaid : Prop := Claim7.holds Tryz.pinned (.plain (OpenSpec.ofChange fnTopSpec)) fnTopCard

/-- THE TIED CARD OF 'laws.FnExactCompareNumber'. -/
def fnExactCompareNumberCard : Claim7 := { stood := { row := fnExactCompareNumberRow, standIns := [], harness := (true, "d3e616db9c318a608281409ffe0609ac3d8331e3273f6379e65891b3659ad9b5"), looks := false }, kinds := [], alts := [], laidByText := true, laidKinds := [.data, .data, .data], laidTests := true, laidLooks := .later }
def FnExactCompareNumberCardSaid : Prop := Claim7.holds Tryz.pinned (.plain (OpenSpec.ofChange fnExactCompareNumberSpec)) fnExactCompareNumberCard

/-- THE TIED CARD OF 'laws.FnTiny'. -/
def fnTinyCard : Claim7 := { stood := { row := fnTinyRow, standIns := [], harness := (true, "d3e616db9c318a608281409ffe0609ac3d8331e3273f6379e65891b3659ad9b5"), looks := false }, kinds := [], alts := [], laidByText := true, laidKinds := [.data, .data, .data], laidTests := true, laidLooks := .later }
def FnTinyCardSaid : Prop := Claim7.holds Tryz.pinned (.plain (OpenSpec.ofChange fnTinySpec)) fnTinyCard

/-- THE TIED CARD OF 'laws.FnExactUpsOf'. -/
def fnExactUpsOfCard : Claim7 := { stood := { row := fnExactUpsOfRow, standIns := [], harness := (true, "d3e616db9c318a608281409ffe0609ac3d8331e3273f6379e65891b3659ad9b5"), looks := false }, kinds := [], alts := [], laidByText := true, laidKinds := [.data, .data, .data], laidTests := true, laidLooks := .later }
def FnExactUpsOfCardSaid : Prop := Claim7.holds Tryz.pinned (.plain (OpenSpec.ofChange fnExactUpsOfSpec)) fnExactUpsOfCard

/-- THE TIED CARD OF 'laws.FnExactStopLine'. -/
def fnExactStopLineCard : Claim7 := { stood := { row := fnExactStopLineRow, standIns := [], harness := (true, "d3e616db9c318a608281409ffe0609ac3d8331e3273f6379e65891b3659ad9b5"), looks := false }, kinds := [], alts := [], laidByText := true, laidKinds := [.data, .data, .data], laidTests := true, laidLooks := .later }
def FnExactStopLineCardSaid : Prop := Claim7.holds Tryz.pinned (.plain (OpenSpec.ofChange fnExactStopLineSpec)) fnExactStopLineCard

/-- THE TIED CARD OF 'laws.FnStopLine'. -/
def fnStopLineCard : Claim7 := { stood := { row := fnStopLineRow, standIns := [], harness := (true, "d3e616db9c318a608281409ffe0609ac3d8331e3273f6379e65891b3659ad9b5"), looks := false }, kinds := [], alts := [], laidByText := true, laidKinds := [.data, .data, .data], laidTests := true, laidLooks := .later }
def FnStopLineCardSaid : Prop := Claim7.holds Tryz.pinned (.plain (OpenSpec.ofChange fnStopLineSpec)) fnStopLineCard

/-- THE SECOND FORM's CARD OF 'laws.FnExactCanonOf'. -/
def fnExactCanonOfUptoCard : Claim7 := { stood := { row := fnExactCanonOfUptoRow, standIns := [], harness := (true, "d3e616db9c318a608281409ffe0609ac3d8331e3273f6379e65891b3659ad9b5"), looks := false }, kinds := [], alts := [], laidByText := true, laidKinds := [.data, .data, .data], laidTests := true, laidLooks := .later }
def FnExactCanonOfUptoCardSaid : Prop := Claim7.holds Tryz.pinned (.plain (OpenSpec.upto fnExactCanonOfSpec)) fnExactCanonOfUptoCard

/-- THE SECOND FORM's CARD OF 'laws.FnTimes'. -/
def fnTimesUptoCard : Claim7 := { stood := { row := fnTimesUptoRow, standIns := [], harness := (true, "d3e616db9c318a608281409ffe0609ac3d8331e3273f6379e65891b3659ad9b5"), looks := false }, kinds := [], alts := [], laidByText := true, laidKinds := [.data, .data, .data], laidTests := true, laidLooks := .later }
def FnTimesUptoCardSaid : Prop := Claim7.holds Tryz.pinned (.plain (OpenSpec.upto fnTimesSpec)) fnTimesUptoCard

/-- THE SECOND FORM's CARD OF 'laws.FnMinus'. -/
def fnMinusUptoCard : Claim7 := { stood := { row := fnMinusUptoRow, standIns := [], harness := (true, "d3e616db9c318a608281409ffe0609ac3d8331e3273f6379e65891b3659ad9b5"), looks := false }, kinds := [], alts := [], laidByText := true, laidKinds := [.data, .data, .data], laidTests := true, laidLooks := .later }
def FnMinusUptoCardSaid : Prop := Claim7.holds Tryz.pinned (.plain (OpenSpec.upto fnMinusSpec)) fnMinusUptoCard

/-- THE SECOND FORM's CARD OF 'laws.FnGroup'. -/
def fnGroupUptoCard : Claim7 := { stood := { row := fnGroupUptoRow, standIns := [], harness := (true, "d3e616db9c318a608281409ffe0609ac3d8331e3273f6379e65891b3659ad9b5"), looks := false }, kinds := [], alts := [], laidByText := true, laidKinds := [.data, .data, .data], laidTests := true, laidLooks := .later }
def FnGroupUptoCardSaid : Prop := Claim7.holds Tryz.pinned (.plain (OpenSpec.upto fnGroupSpec)) fnGroupUptoCard

/-- THE SECOND FORM's CARD OF 'laws.FnSteps'. -/
def fnStepsUptoCard : Claim7 := { stood := { row := fnStepsUptoRow, standIns := [], harness := (true, "d3e616db9c318a608281409ffe0609ac3d8331e3273f6379e65891b3659ad9b5"), looks := false }, kinds := [], alts := [], laidByText := true, laidKinds := [.data, .data, .data], laidTests := true, laidLooks := .later }
def FnStepsUptoCardSaid : Prop := Claim7.holds Tryz.pinned (.plain (OpenSpec.upto fnStepsSpec)) fnStepsUptoCard

/-- THE SECOND FORM's CARD OF 'laws.FnOneForm'. -/
def fnOneFormUptoCard : Claim7 := { stood := { row := fnOneFormUptoRow, standIns := [], harness := (true, "d3e616db9c318a608281409ffe0609ac3d8331e3273f6379e65891b3659ad9b5"), looks := false }, kinds := [], alts := [], laidByText := true, laidKinds := [.data, .data, .data], laidTests := true, laidLooks := .later }
def FnOneFormUptoCardSaid : Prop := Claim7.holds Tryz.pinned (.plain (OpenSpec.upto fnOneFormSpec)) fnOneFormUptoCard

/-- THE SECOND FORM's CARD OF 'laws.FnTop'. -/
def fnTopUptoCard : Claim7 := { stood := { row := fnTopUptoRow, standIns := [], harness := (true, "d3e616db9c318a608281409ffe0609ac3d8331e3273f6379e65891b3659ad9b5"), looks := false }, kinds := [], alts := [], laidByText := true, laidKinds := [.data, .data, .data], laidTests := true, laidLooks := .later }
def FnTopUptoCardSaid : Prop := Claim7.holds Tryz.pinned (.plain (OpenSpec.upto fnTopSpec)) fnTopUptoCard

/-- THE SECOND FORM's CARD OF 'laws.FnExactCompareNumber'. -/
def fnExactCompareNumberUptoCard : Claim7 := { stood := { row := fnExactCompareNumberUptoRow, standIns := [], harness := (true, "d3e616db9c318a608281409ffe0609ac3d8331e3273f6379e65891b3659ad9b5"), looks := false }, kinds := [], alts := [], laidByText := true, laidKinds := [.data, .data, .data], laidTests := true, laidLooks := .later }
def FnExactCompareNumberUptoCardSaid : Prop := Claim7.holds Tryz.pinned (.plain (OpenSpec.upto fnExactCompareNumberSpec)) fnExactCompareNumberUptoCard

/-- THE SECOND FORM's CARD OF 'laws.FnTiny'. -/
def fnTinyUptoCard : Claim7 := { stood := { row := fnTinyUptoRow, standIns := [], harness := (true, "d3e616db9c318a608281409ffe0609ac3d8331e3273f6379e65891b3659ad9b5"), looks := false }, kinds := [], alts := [], laidByText := true, laidKinds := [.data, .data, .data], laidTests := true, laidLooks := .later }
def FnTinyUptoCardSaid : Prop := Claim7.holds Tryz.pinned (.plain (OpenSpec.upto fnTinySpec)) fnTinyUptoCard

/-- THE SECOND FORM's CARD OF 'laws.FnExactUpsOf'. -/
def fnExactUpsOfUptoCard : Claim7 := { stood := { row := fnExactUpsOfUptoRow, standIns := [], harness := (true, "d3e616db9c318a608281409ffe0609ac3d8331e3273f6379e65891b3659ad9b5"), looks := false }, kinds := [], alts := [], laidByText := true, laidKinds := [.data, .data, .data], laidTests := true, laidLooks := .later }
def FnExactUpsOfUptoCardSaid : Prop := Claim7.holds Tryz.pinned (.plain (OpenSpec.upto fnExactUpsOfSpec)) fnExactUpsOfUptoCard

/-- THE SECOND FORM's CARD OF 'laws.FnExactStopLine'. -/
def fnExactStopLineUptoCard : Claim7 := { stood := { row := fnExactStopLineUptoRow, standIns := [], harness := (true, "d3e616db9c318a608281409ffe0609ac3d8331e3273f6379e65891b3659ad9b5"), looks := false }, kinds := [], alts := [], laidByText := true, laidKinds := [.data, .data, .data], laidTests := true, laidLooks := .later }
def FnExactStopLineUptoCardSaid : Prop := Claim7.holds Tryz.pinned (.plain (OpenSpec.upto fnExactStopLineSpec)) fnExactStopLineUptoCard

/-- THE SECOND FORM's CARD OF 'laws.FnStopLine'. -/
def fnStopLineUptoCard : Claim7 := { stood := { row := fnStopLineUptoRow, standIns := [], harness := (true, "d3e616db9c318a608281409ffe0609ac3d8331e3273f6379e65891b3659ad9b5"), looks := false }, kinds := [], alts := [], laidByText := true, laidKinds := [.data, .data, .data], laidTests := true, laidLooks := .later }
def FnStopLineUptoCardSaid : Prop := Claim7.holds Tryz.pinned (.plain (OpenSpec.upto fnStopLineSpec)) fnStopLineUptoCard
end Rows
end Go.Proofs.YtioiljboihehcaaGreatDoor
