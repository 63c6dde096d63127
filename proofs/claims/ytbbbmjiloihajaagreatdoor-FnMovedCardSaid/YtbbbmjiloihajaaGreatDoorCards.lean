/-
  DERIVED. GIVEN WITH THE SEED: THE CARDS: each row of YtbbbmjiloihajaaGreatDoorRows.lean that lists a variable, with what it lists TIED to the program's text (the seventh form; the later family's looks); each row that meets fmt, with fmt's text TOLD by the authors' own Lean function (tested against real Go, not proved from fmt's source: count such statements apart). THE CARD IS WHAT COUNTS. Prove the row's statement (the work); the ties are given (YtbbbmjiloihajaaGreatDoorTie.lean); close each card by the builder's one call (the guide's Derived/Test/ToyasCard.lean, 'card_holds'). Laid BY PROGRAM, IN A SANDBOX (cutbox-door.mjs). By AI agents, Wed Nov 11 2026. No macro, syntax, notation, axiom, sorry.
-/
import Derived.Test.YtbbbmjiloihajaaGreatDoorRows
import GoSem.ClaimSeven
namespace Go.Proofs.YtbbbmjiloihajaaGreatDoor
namespace Rows

/-- THE TIED CARD OF 'laws.FnExactStopLine'. -/
def fnExactStopLineCard : Claim7 := { stood := { row := fnExactStopLineRow, standIns := [], harness := (true, "b89bf407c25ffe24c693e282df546db1b5af322534e502cc7730c68122857904"), looks := false }, kinds := [], alts := [], laidByText := true, laidKinds := [.data, .data, .data], laidTests := true, laidLooks := .later }
def FnExactStopLineCardSaid : Prop := Claim7.holds Tryz.pinned (.plain (OpenSpec.ofChange fnExactStopLineSpec)) fnExactStopLineCard

/-- THE TIED CARD OF 'laws.FnExactUpsOf'. -/
def fnExactUpsOfCard : Claim7 := { stood := { row := fnExactUpsOfRow, standIns := [], harness := (true, "b89bf407c25ffe24c693e282df546db1b5af322534e502cc7730c68122857904"), looks := false }, kinds := [], alts := [], laidByText := true, laidKinds := [.data, .data, .data], laidTests := true, laidLooks := .later }
def FnExactUpsOfCardSaid : Prop := Claim7.holds Tryz.pinned (.plain (OpenSpec.ofChange fnExactUpsOfSpec)) fnExactUpsOfCard

/-- THE TIED CARD OF 'laws.FnTiny'. -/
def fnTinyCard : Claim7 := { stood := { row := fnTinyRow, standIns := [], harness := (true, "b89bf407c25ffe24c693e282df546db1b5af322534e502cc7730c68122857904"), looks := false }, kinds := [], alts := [], laidByText := true, laidKinds := [.data, .data, .data], laidTests := true, laidLooks := .later }
def FnTinyCardSaid : Prop := Claim7.holds Tryz.pinned (.plain (OpenSpec.ofChange fnTinySpec)) fnTinyCard

/-- THE TIED CARD OF 'laws.FnExactCompareNumber'. -/
def fnExactCompareNumberCard : Claim7 := { stood := { row := fnExactCompareNumberRow, standIns := [], harness := (true, "b89bf407c25ffe24c693e282df546db1b5af322534e502cc7730c68122857904"), looks := false }, kinds := [], alts := [], laidByText := true, laidKinds := [.data, .data, .data], laidTests := true, laidLooks := .later }
def FnExactCompareNumberCardSaid : Prop := Claim7.holds Tryz.pinned (.plain (OpenSpec.ofChange fnExactCompareNumberSpec)) fnExactCompareNumberCard

/-- THE TIED CARD OF 'laws.FnTop'. -/
def fnTopCard : Claim7 := { stood := { row := fnTopRow, standIns := [], harness := (true, "b89bf407c25ffe24c693e282df546db1b5af322534e502cc7730c68122857904"), looks := false }, kinds := [], alts := [], laidByText := true, laidKinds := [.data, .data, .data], laidTests := true, laidLooks := .later }
def FnTopCardSaid : Prop := Claim7.holds Tryz.pinned (.plain (OpenSpec.ofChange fnTopSpec)) fnTopCard

/-- THE TIED CARD OF 'laws.FnExactPlusNumber'. -/
def fnExactPlusNumberCard : Claim7 := { stood := { row := fnExactPlusNumberRow, standIns := [], harness := (true, "b89bf407c25ffe24c693e282df546db1b5af322534e502cc7730c68122857904"), looks := false }, kinds := [], alts := [], laidByText := true, laidKinds := [.data, .data, .data], laidTests := true, laidLooks := .later }
def FnExactPlusNumberCardSaid : Prop := Claim7.holds Tryz.pinned (.plain (OpenSpec.ofChange fnExactPlusNumberSpec)) fnExactPlusNumberCard

/-- THE TIED CARD OF 'laws.FnMoved'. -/
def fnMovedCard : Claim7 := { stood := { row := fnMovedRow, standIns := [], harness := (true, "b89bf407c25ffe24c693e282df546db1b5af322534e502cc7730c68122857904"), looks := false }, kinds := [], alts := [], laidByText := true, laidKinds := [.data, .data, .data], laidTests := true, laidLooks := .later }
def FnMovedCardSaid : Prop := Claim7.holds Tryz.pinned (.plain (OpenSpec.ofChange fnMovedSpec)) fnMovedCard

/-- THE TIED CARD OF 'laws.FnNumber'. -/
def fnNumberCard : Claim7 := { stood := { row := fnNumberRow, standIns := [], harness := (true, "b89bf407c25ffe24c693e282df546db1b5af322534e502cc7730c68122857904"), looks := false }, kinds := [], alts := [], laidByText := true, laidKinds := [.data, .data, .data], laidTests := true, laidLooks := .later }
def FnNumberCardSaid : Prop := Claim7.holds Tryz.pinned (.plain (OpenSpec.ofChange fnNumberSpec)) fnNumberCard

/-- THE TIED CARD OF 'laws.FnStopLine'. -/
def fnStopLineCard : Claim7 := { stood := { row := fnStopLineRow, standIns := [], harness := (true, "b89bf407c25ffe24c693e282df546db1b5af322534e502cc7730c68122857904"), looks := false }, kinds := [], alts := [], laidByText := true, laidKinds := [.data, .data, .data], laidTests := true, laidLooks := .later }
def FnStopLineCardSaid : Prop := Claim7.holds Tryz.pinned (.plain (OpenSpec.ofChange fnStopLineSpec)) fnStopLineCard

/-- THE TIED CARD OF 'laws.FnStars'. -/
def fnStarsCard : Claim7 := { stood := { row := fnStarsRow, standIns := [], harness := (true, "b89bf407c25ffe24c693e282df546db1b5af322534e502cc7730c68122857904"), looks := false }, kinds := [], alts := [], laidByText := true, laidKinds := [.data, .data, .data], laidTests := true, laidLooks := .later }
def FnStarsCardSaid : Prop := Claim7.holds Tryz.pinned (.plain (OpenSpec.ofChange fnStarsSpec)) fnStarsCard

/-- THE SECOND FORM's CARD OF 'laws.FnExactStopLine'. -/
def fnExactStopLineUptoCard : Claim7 := { stood := { row := fnExactStopLineUptoRow, standIns := [], harness := (true, "b89bf407c25ffe24c693e282df546db1b5af322534e502cc7730c68122857904"), looks := false }, kinds := [], alts := [], laidByText := true, laidKinds := [.data, .data, .data], laidTests := true, laidLooks := .later }
def FnExactStopLineUptoCardSaid : Prop := Claim7.holds Tryz.pinned (.plain (OpenSpec.upto fnExactStopLineSpec)) fnExactStopLineUptoCard

/-- THE SECOND FORM's CARD OF 'laws.FnExactUpsOf'. -/
def fnExactUpsOfUptoCard : Claim7 := { stood := { row := fnExactUpsOfUptoRow, standIns := [], harness := (true, "b89bf407c25ffe24c693e282df546db1b5af322534e502cc7730c68122857904"), looks := false }, kinds := [], alts := [], laidByText := true, laidKinds := [.data, .data, .data], laidTests := true, laidLooks := .later }
def FnExactUpsOfUptoCardSaid : Prop := Claim7.holds Tryz.pinned (.plain (OpenSpec.upto fnExactUpsOfSpec)) fnExactUpsOfUptoCard

/-- THE SECOND FORM's CARD OF 'laws.FnTiny'. -/
def fnTinyUptoCard : Claim7 := { stood := { row := fnTinyUptoRow, standIns := [], harness := (true, "b89bf407c25ffe24c693e282df546db1b5af322534e502cc7730c68122857904"), looks := false }, kinds := [], alts := [], laidByText := true, laidKinds := [.data, .data, .data], laidTests := true, laidLooks := .later }
def FnTinyUptoCardSaid : Prop := Claim7.holds Tryz.pinned (.plain (OpenSpec.upto fnTinySpec)) fnTinyUptoCard

/-- THE SECOND FORM's CARD OF 'laws.FnExactCompareNumber'. -/
def fnExactCompareNumberUptoCard : Claim7 := { stood := { row := fnExactCompareNumberUptoRow, standIns := [], harness := (true, "b89bf407c25ffe24c693e282df546db1b5af322534e502cc7730c68122857904"), looks := false }, kinds := [], alts := [], laidByText := true, laidKinds := [.data, .data, .data], laidTests := true, laidLooks := .later }
def FnExactCompareNumberUptoCardSaid : Prop := Claim7.holds Tryz.pinned (.plain (OpenSpec.upto fnExactCompareNumberSpec)) fnExactCompareNumberUptoCard

/-- THE SECOND FORM's CARD OF 'laws.FnTop'. -/
def fnTopUptoCard : Claim7 := { stood := { row := fnTopUptoRow, standIns := [], harness := (true, "b89bf407c25ffe24c693e282df546db1b5af322534e502cc7730c68122857904"), looks := false }, kinds := [], alts := [], laidByText := true, laidKinds := [.data, .data, .data], laidTests := true, laidLooks := .later }
def FnTopUptoCardSaid : Prop := Claim7.holds Tryz.pinned (.plain (OpenSpec.upto fnTopSpec)) fnTopUptoCard

/-- THE SECOND FORM's CARD OF 'laws.FnExactPlusNumber'. -/
def fnExactPlusNumberUptoCard : Claim7 := { stood := { row := fnExactPlusNumberUptoRow, standIns := [], harness := (true, "b89bf407c25ffe24c693e282df546db1b5af322534e502cc7730c68122857904"), looks := false }, kinds := [], alts := [], laidByText := true, laidKinds := [.data, .data, .data], laidTests := true, laidLooks := .later }
def FnExactPlusNumberUptoCardSaid : Prop := Claim7.holds Tryz.pinned (.plain (OpenSpec.upto fnExactPlusNumberSpec)) fnExactPlusNumberUptoCard

/-- THE SECOND FORM's CARD OF 'laws.FnMoved'. -/
def fnMovedUptoCard : Claim7 := { stood := { row := fnMovedUptoRow, standIns := [], harness := (true, "b89bf407c25ffe24c693e282df546db1b5af322534e502cc7730c68122857904"), looks := false }, kinds := [], alts := [], laidByText := true, laidKinds := [.data, .data, .data], laidTests := true, laidLooks := .later }
def FnMovedUptoCardSaid : Prop := Claim7.holds Tryz.pinned (.plain (OpenSpec.upto fnMovedSpec)) fnMovedUptoCard

/-- THE SECOND FORM's CARD OF 'laws.FnNumber'. -/
def fnNumberUptoCard : Claim7 := { stood := { row := fnNumberUptoRow, standIns := [], harness := (true, "b89bf407c25ffe24c693e282df546db1b5af322534e502cc7730c68122857904"), looks := false }, kinds := [], alts := [], laidByText := true, laidKinds := [.data, .data, .data], laidTests := true, laidLooks := .later }
def FnNumberUptoCardSaid : Prop := Claim7.holds Tryz.pinned (.plain (OpenSpec.upto fnNumberSpec)) fnNumberUptoCard

/-- THE SECOND FORM's CARD OF 'laws.FnStopLine'. -/
def fnStopLineUptoCard : Claim7 := { stood := { row := fnStopLineUptoRow, standIns := [], harness := (true, "b89bf407c25ffe24c693e282df546db1b5af322534e502cc7730c68122857904"), looks := false }, kinds := [], alts := [], laidByText := true, laidKinds := [.data, .data, .data], laidTests := true, laidLooks := .later }
def FnStopLineUptoCardSaid : Prop := Claim7.holds Tryz.pinned (.plain (OpenSpec.upto fnStopLineSpec)) fnStopLineUptoCard

/-- THE SECOND FORM's CARD OF 'laws.FnStars'. -/
def fnStarsUptoCard : Claim7 := { stood := { row := fnStarsUptoRow, standIns := [], harness := (true, "b89bf407c25ffe24c693e282df546db1b5af322534e502cc7730c68122857904"), looks := false }, kinds := [], alts := [], laidByText := true, laidKinds := [.data, .data, .data], laidTests := true, laidLooks := .later }
def FnStarsUptoCardSaid : Prop := Claim7.holds Tryz.pinned (.plain (OpenSpec.upto fnStarsSpec)) fnStarsUptoCard
end Rows
end Go.Proofs.YtbbbmjiloihajaaGreatDoor
