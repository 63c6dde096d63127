/-
  DERIVED. GIVEN WITH THE SEED: THE CARDS: each row of YtkbljlbfkgoalaaGreatDoorRows.lean that lists a variable, with what it lists TIED to the program's text (the seventh form; the later family's looks); each row that meets fmt, with fmt's text TOLD by the authors' own Lean function (tested against real Go, not proved from fmt's source: count such statements apart). THE CARD IS WHAT COUNTS. Prove the row's statement (the work); the ties are given (YtkbljlbfkgoalaaGreatDoorTie.lean); close each card by the builder's one call (the guide's Derived/Test/ToyasCard.lean, 'card_holds'). Laid BY PROGRAM, IN A SANDBOX (cutbox-door.mjs). By AI agents, Wed Nov 11 2026. No macro, syntax, notation, axiom, sorry.
-/
import Derived.Test.YtkbljlbfkgoalaaGreatDoorRows
import GoSem.ClaimSeven
namespace Go.Proofs.YtkbljlbfkgoalaaGreatDoor
namespace Rows

/-- THE TIED CARD OF 'laws.FnExactStalkForm'. -/
def fnExactStalkFormCard : Claim7 := { stood := { row := fnExactStalkFormRow, standIns := [], harness := (true, "6a408f6c5cdbc926e8b417e94358fcc162a9990dd2020e5f4c45ca77eba9548a"), looks := false }, kinds := [], alts := [], laidByText := true, laidKinds := [.data, .data, .data, .data, .pinned], laidTests := true, laidLooks := .later }
def FnExactStalkFormCardSaid : Prop := Claim7.holds Tryz.pinned (.plain (OpenSpec.ofChange fnExactStalkFormSpec)) fnExactStalkFormCard

/-- THE TIED CARD OF 'laws.FnExactSumOfMany'. -/
def fnExactSumOfManyCard : Claim7 := { stood := { row := fnExactSumOfManyRow, standIns := [], harness := (true, "6a408f6c5cdbc926e8b417e94358fcc162a9990dd2020e5f4c45ca77eba9548a"), looks := false }, kinds := [], alts := [], laidByText := true, laidKinds := [.data, .data, .data], laidTests := true, laidLooks := .later }
def FnExactSumOfManyCardSaid : Prop := Claim7.holds Tryz.pinned (.plain (OpenSpec.ofChange fnExactSumOfManySpec)) fnExactSumOfManyCard

/-- THE TIED CARD OF 'laws.FnExactTimesForm'. -/
def fnExactTimesFormCard : Claim7 := { stood := { row := fnExactTimesFormRow, standIns := [], harness := (true, "6a408f6c5cdbc926e8b417e94358fcc162a9990dd2020e5f4c45ca77eba9548a"), looks := false }, kinds := [], alts := [], laidByText := true, laidKinds := [.data, .data, .data], laidTests := true, laidLooks := .later }
def FnExactTimesFormCardSaid : Prop := Claim7.holds Tryz.pinned (.plain (OpenSpec.ofChange fnExactTimesFormSpec)) fnExactTimesFormCard

/-- THE TIED CARD OF 'laws.FnExactDropForm'. -/
def fnExactDropFormCard : Claim7 := { stood := { row := fnExactDropFormRow, standIns := [], harness := (true, "6a408f6c5cdbc926e8b417e94358fcc162a9990dd2020e5f4c45ca77eba9548a"), looks := false }, kinds := [], alts := [], laidByText := true, laidKinds := [.data, .data, .data], laidTests := true, laidLooks := .later }
def FnExactDropFormCardSaid : Prop := Claim7.holds Tryz.pinned (.plain (OpenSpec.ofChange fnExactDropFormSpec)) fnExactDropFormCard

/-- THE TIED CARD OF 'laws.FnExactBypassForm'. -/
def fnExactBypassFormCard : Claim7 := { stood := { row := fnExactBypassFormRow, standIns := [], harness := (true, "6a408f6c5cdbc926e8b417e94358fcc162a9990dd2020e5f4c45ca77eba9548a"), looks := false }, kinds := [], alts := [], laidByText := true, laidKinds := [.data, .data, .data], laidTests := true, laidLooks := .later }
def FnExactBypassFormCardSaid : Prop := Claim7.holds Tryz.pinned (.plain (OpenSpec.ofChange fnExactBypassFormSpec)) fnExactBypassFormCard

/-- THE TIED CARD OF 'laws.FnExactCompareNumber'. -/
def fnExactCompareNumberCard : Claim7 := { stood := { row := fnExactCompareNumberRow, standIns := [], harness := (true, "6a408f6c5cdbc926e8b417e94358fcc162a9990dd2020e5f4c45ca77eba9548a"), looks := false }, kinds := [], alts := [], laidByText := true, laidKinds := [.data, .data, .data], laidTests := true, laidLooks := .later }
def FnExactCompareNumberCardSaid : Prop := Claim7.holds Tryz.pinned (.plain (OpenSpec.ofChange fnExactCompareNumberSpec)) fnExactCompareNumberCard

/-- THE TIED CARD OF 'laws.FnExactCanonOf'. -/
def fnExactCanonOfCard : Claim7 := { stood := { row := fnExactCanonOfRow, standIns := [], harness := (true, "6a408f6c5cdbc926e8b417e94358fcc162a9990dd2020e5f4c45ca77eba9548a"), looks := false }, kinds := [], alts := [], laidByText := true, laidKinds := [.data, .data, .data], laidTests := true, laidLooks := .later }
def FnExactCanonOfCardSaid : Prop := Claim7.holds Tryz.pinned (.plain (OpenSpec.ofChange fnExactCanonOfSpec)) fnExactCanonOfCard

/-- THE TIED CARD OF 'laws.FnExactCanonSum'. -/
def fnExactCanonSumCard : Claim7 := { stood := { row := fnExactCanonSumRow, standIns := [], harness := (true, "6a408f6c5cdbc926e8b417e94358fcc162a9990dd2020e5f4c45ca77eba9548a"), looks := false }, kinds := [], alts := [], laidByText := true, laidKinds := [.data, .data, .data], laidTests := true, laidLooks := .later }
def FnExactCanonSumCardSaid : Prop := Claim7.holds Tryz.pinned (.plain (OpenSpec.ofChange fnExactCanonSumSpec)) fnExactCanonSumCard

/-- THE TIED CARD OF 'laws.FnExactPlusNumber'. -/
def fnExactPlusNumberCard : Claim7 := { stood := { row := fnExactPlusNumberRow, standIns := [], harness := (true, "6a408f6c5cdbc926e8b417e94358fcc162a9990dd2020e5f4c45ca77eba9548a"), looks := false }, kinds := [], alts := [], laidByText := true, laidKinds := [.data, .data, .data], laidTests := true, laidLooks := .later }
def FnExactPlusNumberCardSaid : Prop := Claim7.holds Tryz.pinned (.plain (OpenSpec.ofChange fnExactPlusNumberSpec)) fnExactPlusNumberCard

/-- THE TIED CARD OF 'laws.FnExactSumOfTable'. -/
def fnExactSumOfTableCard : Claim7 := { stood := { row := fnExactSumOfTableRow, standIns := [], harness := (true, "6a408f6c5cdbc926e8b417e94358fcc162a9990dd2020e5f4c45ca77eba9548a"), looks := false }, kinds := [], alts := [], laidByText := true, laidKinds := [.data, .data, .data], laidTests := true, laidLooks := .later }
def FnExactSumOfTableCardSaid : Prop := Claim7.holds Tryz.pinned (.plain (OpenSpec.ofChange fnExactSumOfTableSpec)) fnExactSumOfTableCard

/-- THE TIED CARD OF 'laws.FnExactWinnerOf'. -/
def fnExactWinnerOfCard : Claim7 := { stood := { row := fnExactWinnerOfRow, standIns := [], harness := (true, "6a408f6c5cdbc926e8b417e94358fcc162a9990dd2020e5f4c45ca77eba9548a"), looks := false }, kinds := [], alts := [], laidByText := true, laidKinds := [.data, .data, .data], laidTests := true, laidLooks := .later }
def FnExactWinnerOfCardSaid : Prop := Claim7.holds Tryz.pinned (.plain (OpenSpec.ofChange fnExactWinnerOfSpec)) fnExactWinnerOfCard

/-- THE TIED CARD OF 'laws.FnExactUpsOf'. -/
def fnExactUpsOfCard : Claim7 := { stood := { row := fnExactUpsOfRow, standIns := [], harness := (true, "6a408f6c5cdbc926e8b417e94358fcc162a9990dd2020e5f4c45ca77eba9548a"), looks := false }, kinds := [], alts := [], laidByText := true, laidKinds := [.data, .data, .data], laidTests := true, laidLooks := .later }
def FnExactUpsOfCardSaid : Prop := Claim7.holds Tryz.pinned (.plain (OpenSpec.ofChange fnExactUpsOfSpec)) fnExactUpsOfCard

/-- THE SECOND FORM's CARD OF 'laws.FnExactStalkForm'. -/
def fnExactStalkFormUptoCard : Claim7 := { stood := { row := fnExactStalkFormUptoRow, standIns := [], harness := (true, "6a408f6c5cdbc926e8b417e94358fcc162a9990dd2020e5f4c45ca77eba9548a"), looks := false }, kinds := [], alts := [], laidByText := true, laidKinds := [.data, .data, .data, .data, .pinned], laidTests := true, laidLooks := .later }
def FnExactStalkFormUptoCardSaid : Prop := Claim7.holds Tryz.pinned (.plain (OpenSpec.upto fnExactStalkFormSpec)) fnExactStalkFormUptoCard

/-- THE SECOND FORM's CARD OF 'laws.FnExactSumOfMany'. -/
def fnExactSumOfManyUptoCard : Claim7 := { stood := { row := fnExactSumOfManyUptoRow, standIns := [], harness := (true, "6a408f6c5cdbc926e8b417e94358fcc162a9990dd2020e5f4c45ca77eba9548a"), looks := false }, kinds := [], alts := [], laidByText := true, laidKinds := [.data, .data, .data], laidTests := true, laidLooks := .later }
def FnExactSumOfManyUptoCardSaid : Prop := Claim7.holds Tryz.pinned (.plain (OpenSpec.upto fnExactSumOfManySpec)) fnExactSumOfManyUptoCard

/-- THE SECOND FORM's CARD OF 'laws.FnExactTimesForm'. -/
def fnExactTimesFormUptoCard : Claim7 := { stood := { row := fnExactTimesFormUptoRow, standIns := [], harness := (true, "6a408f6c5cdbc926e8b417e94358fcc162a9990dd2020e5f4c45ca77eba9548a"), looks := false }, kinds := [], alts := [], laidByText := true, laidKinds := [.data, .data, .data], laidTests := true, laidLooks := .later }
def FnExactTimesFormUptoCardSaid : Prop := Claim7.holds Tryz.pinned (.plain (OpenSpec.upto fnExactTimesFormSpec)) fnExactTimesFormUptoCard

/-- THE SECOND FORM's CARD OF 'laws.FnExactDropForm'. -/
def fnExactDropFormUptoCard : Claim7 := { stood := { row := fnExactDropFormUptoRow, standIns := [], harness := (true, "6a408f6c5cdbc926e8b417e94358fcc162a9990dd2020e5f4c45ca77eba9548a"), looks := false }, kinds := [], alts := [], laidByText := true, laidKinds := [.data, .data, .data], laidTests := true, laidLooks := .later }
def FnExactDropFormUptoCardSaid : Prop := Claim7.holds Tryz.pinned (.plain (OpenSpec.upto fnExactDropFormSpec)) fnExactDropFormUptoCard

/-- THE SECOND FORM's CARD OF 'laws.FnExactBypassForm'. -/
def fnExactBypassFormUptoCard : Claim7 := { stood := { row := fnExactBypassFormUptoRow, standIns := [], harness := (true, "6a408f6c5cdbc926e8b417e94358fcc162a9990dd2020e5f4c45ca77eba9548a"), looks := false }, kinds := [], alts := [], laidByText := true, laidKinds := [.data, .data, .data], laidTests := true, laidLooks := .later }
def FnExactBypassFormUptoCardSaid : Prop := Claim7.holds Tryz.pinned (.plain (OpenSpec.upto fnExactBypassFormSpec)) fnExactBypassFormUptoCard

/-- THE SECOND FORM's CARD OF 'laws.FnExactCompareNumber'. -/
def fnExactCompareNumberUptoCard : Claim7 := { stood := { row := fnExactCompareNumberUptoRow, standIns := [], harness := (true, "6a408f6c5cdbc926e8b417e94358fcc162a9990dd2020e5f4c45ca77eba9548a"), looks := false }, kinds := [], alts := [], laidByText := true, laidKinds := [.data, .data, .data], laidTests := true, laidLooks := .later }
def FnExactCompareNumberUptoCardSaid : Prop := Claim7.holds Tryz.pinned (.plain (OpenSpec.upto fnExactCompareNumberSpec)) fnExactCompareNumberUptoCard

/-- THE SECOND FORM's CARD OF 'laws.FnExactCanonOf'. -/
def fnExactCanonOfUptoCard : Claim7 := { stood := { row := fnExactCanonOfUptoRow, standIns := [], harness := (true, "6a408f6c5cdbc926e8b417e94358fcc162a9990dd2020e5f4c45ca77eba9548a"), looks := false }, kinds := [], alts := [], laidByText := true, laidKinds := [.data, .data, .data], laidTests := true, laidLooks := .later }
def FnExactCanonOfUptoCardSaid : Prop := Claim7.holds Tryz.pinned (.plain (OpenSpec.upto fnExactCanonOfSpec)) fnExactCanonOfUptoCard

/-- THE SECOND FORM's CARD OF 'laws.FnExactCanonSum'. -/
def fnExactCanonSumUptoCard : Claim7 := { stood := { row := fnExactCanonSumUptoRow, standIns := [], harness := (true, "6a408f6c5cdbc926e8b417e94358fcc162a9990dd2020e5f4c45ca77eba9548a"), looks := false }, kinds := [], alts := [], laidByText := true, laidKinds := [.data, .data, .data], laidTests := true, laidLooks := .later }
def FnExactCanonSumUptoCardSaid : Prop := Claim7.holds Tryz.pinned (.plain (OpenSpec.upto fnExactCanonSumSpec)) fnExactCanonSumUptoCard

/-- THE SECOND FORM's CARD OF 'laws.FnExactPlusNumber'. -/
def fnExactPlusNumberUptoCard : Claim7 := { stood := { row := fnExactPlusNumberUptoRow, standIns := [], harness := (true, "6a408f6c5cdbc926e8b417e94358fcc162a9990dd2020e5f4c45ca77eba9548a"), looks := false }, kinds := [], alts := [], laidByText := true, laidKinds := [.data, .data, .data], laidTests := true, laidLooks := .later }
def FnExactPlusNumberUptoCardSaid : Prop := Claim7.holds Tryz.pinned (.plain (OpenSpec.upto fnExactPlusNumberSpec)) fnExactPlusNumberUptoCard

/-- THE SECOND FORM's CARD OF 'laws.FnExactSumOfTable'. -/
def fnExactSumOfTableUptoCard : Claim7 := { stood := { row := fnExactSumOfTableUptoRow, standIns := [], harness := (true, "6a408f6c5cdbc926e8b417e94358fcc162a9990dd2020e5f4c45ca77eba9548a"), looks := false }, kinds := [], alts := [], laidByText := true, laidKinds := [.data, .data, .data], laidTests := true, laidLooks := .later }
def FnExactSumOfTableUptoCardSaid : Prop := Claim7.holds Tryz.pinned (.plain (OpenSpec.upto fnExactSumOfTableSpec)) fnExactSumOfTableUptoCard

/-- THE SECOND FORM's CARD OF 'laws.FnExactWinnerOf'. -/
def fnExactWinnerOfUptoCard : Claim7 := { stood := { row := fnExactWinnerOfUptoRow, standIns := [], harness := (true, "6a408f6c5cdbc926e8b417e94358fcc162a9990dd2020e5f4c45ca77eba9548a"), looks := false }, kinds := [], alts := [], laidByText := true, laidKinds := [.data, .data, .data], laidTests := true, laidLooks := .later }
def FnExactWinnerOfUptoCardSaid : Prop := Claim7.holds Tryz.pinned (.plain (OpenSpec.upto fnExactWinnerOfSpec)) fnExactWinnerOfUptoCard

/-- THE SECOND FORM's CARD OF 'laws.FnExactUpsOf'. -/
def fnExactUpsOfUptoCard : Claim7 := { stood := { row := fnExactUpsOfUptoRow, standIns := [], harness := (true, "6a408f6c5cdbc926e8b417e94358fcc162a9990dd2020e5f4c45ca77eba9548a"), looks := false }, kinds := [], alts := [], laidByText := true, laidKinds := [.data, .data, .data], laidTests := true, laidLooks := .later }
def FnExactUpsOfUptoCardSaid : Prop := Claim7.holds Tryz.pinned (.plain (OpenSpec.upto fnExactUpsOfSpec)) fnExactUpsOfUptoCard
end Rows
end Go.Proofs.YtkbljlbfkgoalaaGreatDoor
