/-
  DERIVED. GIVEN WITH THE SEED: THE CARDS: each row of YtcalpapdkmnblaaGreatDoorRows.lean that lists a variable, with what it lists TIED to the program's text (the seventh form; the later family's looks); each row that meets fmt, with fmt's text TOLD by the authors' own Lean function (tested against real Go, not proved from fmt's source: count such statements apart). THE CARD IS WHAT COUNTS. Prove the row's statement (the work); the ties are given (YtcalpapdkmnblaaGreatDoorTie.lean); close each card by the builder's one call (the guide's Derived/Test/ToyasCard.lean, 'card_holds'). Laid BY PROGRAM, IN A SANDBOX (cutbox-door.mjs). By AI agents, Wed Nov 11 2026. No macro, syntax, notation, axiom, sorry.
-/
import Derived.Test.YtcalpapdkmnblaaGreatDoorRows
import GoSem.ClaimSeven
namespace Go.Proofs.YtcalpapdkmnblaaGreatDoor
namespace Rows

/-- THE TIED CARD OF 'laws.FnStops'. -/
def fnStopsCard : Claim7 := { stood := { row := fnStopsRow, standIns := [], harness := (true, "a303159eda4f5750b7004a4b4f4793521ade7bbf513e165447050ca079edc328"), looks := false }, kinds := [], alts := [], laidByText := true, laidKinds := [.data, .data, .data], laidTests := true, laidLooks := .later }
def FnStopsCardSaid : Prop := Claim7.holds Tryz.pinned (.plain (OpenSpec.ofChange fnStopsSpec)) fnStopsCard

/-- THE TIED CARD OF 'laws.FnConfused'. -/
def fnConfusedCard : Claim7 := { stood := { row := fnConfusedRow, standIns := [], harness := (true, "a303159eda4f5750b7004a4b4f4793521ade7bbf513e165447050ca079edc328"), looks := false }, kinds := [], alts := [], laidByText := true, laidKinds := [.data, .data, .data], laidTests := true, laidLooks := .later }
def FnConfusedCardSaid : Prop := Claim7.holds Tryz.pinned (.plain (OpenSpec.ofChange fnConfusedSpec)) fnConfusedCard

/-- THE TIED CARD OF 'laws.FnStopSums'. -/
def fnStopSumsCard : Claim7 := { stood := { row := fnStopSumsRow, standIns := [], harness := (true, "a303159eda4f5750b7004a4b4f4793521ade7bbf513e165447050ca079edc328"), looks := false }, kinds := [], alts := [], laidByText := true, laidKinds := [.data, .data, .data], laidTests := true, laidLooks := .later }
def FnStopSumsCardSaid : Prop := Claim7.holds Tryz.pinned (.plain (OpenSpec.ofChange fnStopSumsSpec)) fnStopSumsCard

/-- THE TIED CARD OF 'laws.FnExactUpsOf'. -/
def fnExactUpsOfCard : Claim7 := { stood := { row := fnExactUpsOfRow, standIns := [], harness := (true, "a303159eda4f5750b7004a4b4f4793521ade7bbf513e165447050ca079edc328"), looks := false }, kinds := [], alts := [], laidByText := true, laidKinds := [.data, .data, .data], laidTests := true, laidLooks := .later }
def FnExactUpsOfCardSaid : Prop := Claim7.holds Tryz.pinned (.plain (OpenSpec.ofChange fnExactUpsOfSpec)) fnExactUpsOfCard

/-- THE TIED CARD OF 'laws.FnUps'. -/
def fnUpsCard : Claim7 := { stood := { row := fnUpsRow, standIns := [], harness := (true, "a303159eda4f5750b7004a4b4f4793521ade7bbf513e165447050ca079edc328"), looks := false }, kinds := [], alts := [], laidByText := true, laidKinds := [.data, .data, .data], laidTests := true, laidLooks := .later }
def FnUpsCardSaid : Prop := Claim7.holds Tryz.pinned (.plain (OpenSpec.ofChange fnUpsSpec)) fnUpsCard

/-- THE TIED CARD OF 'laws.FnStars'. -/
def fnStarsCard : Claim7 := { stood := { row := fnStarsRow, standIns := [], harness := (true, "a303159eda4f5750b7004a4b4f4793521ade7bbf513e165447050ca079edc328"), looks := false }, kinds := [], alts := [], laidByText := true, laidKinds := [.data, .data, .data], laidTests := true, laidLooks := .later }
def FnStarsCardSaid : Prop := Claim7.holds Tryz.pinned (.plain (OpenSpec.ofChange fnStarsSpec)) fnStarsCard

/-- THE TIED CARD OF 'laws.FnExactHeapForm'. -/
def fnExactHeapFormCard : Claim7 := { stood := { row := fnExactHeapFormRow, standIns := [], harness := (true, "a303159eda4f5750b7004a4b4f4793521ade7bbf513e165447050ca079edc328"), looks := false }, kinds := [], alts := [], laidByText := true, laidKinds := [.data, .data, .data], laidTests := true, laidLooks := .later }
def FnExactHeapFormCardSaid : Prop := Claim7.holds Tryz.pinned (.plain (OpenSpec.ofChange fnExactHeapFormSpec)) fnExactHeapFormCard

/-- THE TIED CARD OF 'laws.FnHeapForms'. -/
def fnHeapFormsCard : Claim7 := { stood := { row := fnHeapFormsRow, standIns := [], harness := (true, "a303159eda4f5750b7004a4b4f4793521ade7bbf513e165447050ca079edc328"), looks := false }, kinds := [], alts := [], laidByText := true, laidKinds := [.data, .data, .data], laidTests := true, laidLooks := .later }
def FnHeapFormsCardSaid : Prop := Claim7.holds Tryz.pinned (.plain (OpenSpec.ofChange fnHeapFormsSpec)) fnHeapFormsCard

/-- THE TIED CARD OF 'laws.FnExactMeanOf'. -/
def fnExactMeanOfCard : Claim7 := { stood := { row := fnExactMeanOfRow, standIns := [], harness := (true, "a303159eda4f5750b7004a4b4f4793521ade7bbf513e165447050ca079edc328"), looks := false }, kinds := [], alts := [], laidByText := true, laidKinds := [.data, .data, .data], laidTests := true, laidLooks := .later }
def FnExactMeanOfCardSaid : Prop := Claim7.holds Tryz.pinned (.plain (OpenSpec.ofChange fnExactMeanOfSpec)) fnExactMeanOfCard

/-- THE TIED CARD OF 'laws.FnExactTempOf'. -/
def fnExactTempOfCard : Claim7 := { stood := { row := fnExactTempOfRow, standIns := [], harness := (true, "a303159eda4f5750b7004a4b4f4793521ade7bbf513e165447050ca079edc328"), looks := false }, kinds := [], alts := [], laidByText := true, laidKinds := [.data, .data, .data], laidTests := true, laidLooks := .later }
def FnExactTempOfCardSaid : Prop := Claim7.holds Tryz.pinned (.plain (OpenSpec.ofChange fnExactTempOfSpec)) fnExactTempOfCard

/-- THE SECOND FORM's CARD OF 'laws.FnStops'. -/
def fnStopsUptoCard : Claim7 := { stood := { row := fnStopsUptoRow, standIns := [], harness := (true, "a303159eda4f5750b7004a4b4f4793521ade7bbf513e165447050ca079edc328"), looks := false }, kinds := [], alts := [], laidByText := true, laidKinds := [.data, .data, .data], laidTests := true, laidLooks := .later }
def FnStopsUptoCardSaid : Prop := Claim7.holds Tryz.pinned (.plain (OpenSpec.upto fnStopsSpec)) fnStopsUptoCard

/-- THE SECOND FORM's CARD OF 'laws.FnConfused'. -/
def fnConfusedUptoCard : Claim7 := { stood := { row := fnConfusedUptoRow, standIns := [], harness := (true, "a303159eda4f5750b7004a4b4f4793521ade7bbf513e165447050ca079edc328"), looks := false }, kinds := [], alts := [], laidByText := true, laidKinds := [.data, .data, .data], laidTests := true, laidLooks := .later }
def FnConfusedUptoCardSaid : Prop := Claim7.holds Tryz.pinned (.plain (OpenSpec.upto fnConfusedSpec)) fnConfusedUptoCard

/-- THE SECOND FORM's CARD OF 'laws.FnStopSums'. -/
def fnStopSumsUptoCard : Claim7 := { stood := { row := fnStopSumsUptoRow, standIns := [], harness := (true, "a303159eda4f5750b7004a4b4f4793521ade7bbf513e165447050ca079edc328"), looks := false }, kinds := [], alts := [], laidByText := true, laidKinds := [.data, .data, .data], laidTests := true, laidLooks := .later }
def FnStopSumsUptoCardSaid : Prop := Claim7.holds Tryz.pinned (.plain (OpenSpec.upto fnStopSumsSpec)) fnStopSumsUptoCard

/-- THE SECOND FORM's CARD OF 'laws.FnExactUpsOf'. -/
def fnExactUpsOfUptoCard : Claim7 := { stood := { row := fnExactUpsOfUptoRow, standIns := [], harness := (true, "a303159eda4f5750b7004a4b4f4793521ade7bbf513e165447050ca079edc328"), looks := false }, kinds := [], alts := [], laidByText := true, laidKinds := [.data, .data, .data], laidTests := true, laidLooks := .later }
def FnExactUpsOfUptoCardSaid : Prop := Claim7.holds Tryz.pinned (.plain (OpenSpec.upto fnExactUpsOfSpec)) fnExactUpsOfUptoCard

/-- THE SECOND FORM's CARD OF 'laws.FnUps'. -/
def fnUpsUptoCard : Claim7 := { stood := { row := fnUpsUptoRow, standIns := [], harness := (true, "a303159eda4f5750b7004a4b4f4793521ade7bbf513e165447050ca079edc328"), looks := false }, kinds := [], alts := [], laidByText := true, laidKinds := [.data, .data, .data], laidTests := true, laidLooks := .later }
def FnUpsUptoCardSaid : Prop := Claim7.holds Tryz.pinned (.plain (OpenSpec.upto fnUpsSpec)) fnUpsUptoCard

/-- THE SECOND FORM's CARD OF 'laws.FnStars'. -/
def fnStarsUptoCard : Claim7 := { stood := { row := fnStarsUptoRow, standIns := [], harness := (true, "a303159eda4f5750b7004a4b4f4793521ade7bbf513e165447050ca079edc328"), looks := false }, kinds := [], alts := [], laidByText := true, laidKinds := [.data, .data, .data], laidTests := true, laidLooks := .later }
def FnStarsUptoCardSaid : Prop := Claim7.holds Tryz.pinned (.plain (OpenSpec.upto fnStarsSpec)) fnStarsUptoCard

/-- THE SECOND FORM's CARD OF 'laws.FnExactHeapForm'. -/
def fnExactHeapFormUptoCard : Claim7 := { stood := { row := fnExactHeapFormUptoRow, standIns := [], harness := (true, "a303159eda4f5750b7004a4b4f4793521ade7bbf513e165447050ca079edc328"), looks := false }, kinds := [], alts := [], laidByText := true, laidKinds := [.data, .data, .data], laidTests := true, laidLooks := .later }
def FnExactHeapFormUptoCardSaid : Prop := Claim7.holds Tryz.pinned (.plain (OpenSpec.upto fnExactHeapFormSpec)) fnExactHeapFormUptoCard

/-- THE SECOND FORM's CARD OF 'laws.FnHeapForms'. -/
def fnHeapFormsUptoCard : Claim7 := { stood := { row := fnHeapFormsUptoRow, standIns := [], harness := (true, "a303159eda4f5750b7004a4b4f4793521ade7bbf513e165447050ca079edc328"), looks := false }, kinds := [], alts := [], laidByText := true, laidKinds := [.data, .data, .data], laidTests := true, laidLooks := .later }
def FnHeapFormsUptoCardSaid : Prop := Claim7.holds Tryz.pinned (.plain (OpenSpec.upto fnHeapFormsSpec)) fnHeapFormsUptoCard

/-- THE SECOND FORM's CARD OF 'laws.FnExactMeanOf'. -/
def fnExactMeanOfUptoCard : Claim7 := { stood := { row := fnExactMeanOfUptoRow, standIns := [], harness := (true, "a303159eda4f5750b7004a4b4f4793521ade7bbf513e165447050ca079edc328"), looks := false }, kinds := [], alts := [], laidByText := true, laidKinds := [.data, .data, .data], laidTests := true, laidLooks := .later }
def FnExactMeanOfUptoCardSaid : Prop := Claim7.holds Tryz.pinned (.plain (OpenSpec.upto fnExactMeanOfSpec)) fnExactMeanOfUptoCard

/-- THE SECOND FORM's CARD OF 'laws.FnExactTempOf'. -/
def fnExactTempOfUptoCard : Claim7 := { stood := { row := fnExactTempOfUptoRow, standIns := [], harness := (true, "a303159eda4f5750b7004a4b4f4793521ade7bbf513e165447050ca079edc328"), looks := false }, kinds := [], alts := [], laidByText := true, laidKinds := [.data, .data, .data], laidTests := true, laidLooks := .later }
def FnExactTempOfUptoCardSaid : Prop := Claim7.holds Tryz.pinned (.plain (OpenSpec.upto fnExactTempOfSpec)) fnExactTempOfUptoCard
end Rows
end Go.Proofs.YtcalpapdkmnblaaGreatDoor
